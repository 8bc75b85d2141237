/- Part of the proof; it has the parts FShf. -/
import Derived.Test.YtcapadojlaojkaaFStage
set_option maxRecDepth 100000
set_option maxHeartbeats 4000000
namespace Go.Proofs.Ytcapadojlaojkaa
open Go Go.Vc Go.Proofs

structure L_transform_Shift_num_Num__0 where
  t17 : Int
  o14 : List Value
/-- waveport/transform.Shift[waveport/num.Num] -/
theorem transform_Shift_num_Num__vc (p0 : Sl) (p1 : Int) (V : View) (R : Value → View → Prop) (I_transform_Shift_num_Num__0 : Unit → L_transform_Shift_num_Num__0 → View → Prop) (mu_transform_Shift_num_Num__0 : Unit → L_transform_Shift_num_Num__0 → View → Nat)
  (h :
    ((decide (((p0.len : Int) : Int) > 64)) = true →
      R (.tuple #[(Sl.mk none 0 0).v, .int .i64 4]) V) ∧
    ((decide (((p0.len : Int) : Int) > 64)) = false →
      ((0 : Int) ≤ (p0.len : Int) ∧ ((p0.len : Int) : Int) ≤ (p0.len : Int) ∧ (88 : Int) * (p0.len : Int) ≤ 281474976710656 ∧ ((p0.len : Int) : Int) ≤ 9223372036854775807) ∧
    I_transform_Shift_num_Num__0 () (L_transform_Shift_num_Num__0.mk 0 ((List.replicate (Int.toNat (p0.len : Int)) [Value.bool false, Value.slice none 0 0, Value.bool false, Value.slice none 0 0, Value.slice none 0 0]).flatten)) V ∧
    (∀ (x2 : L_transform_Shift_num_Num__0) (V1 : View), View.le V V1 → I_transform_Shift_num_Num__0 () x2 V1 →
      ((decide ((x2.t17 : Int) < (p0.len : Int))) = true →
        ((p0.len : Int) : Int) ≠ 0 ∧
      ((p0.len : Int) : Int) ≠ 0 ∧
      ((0 : Int) ≤ x2.t17 ∧ (x2.t17 : Int) < (p0.len : Nat) ∧ Option.isSome p0.a = true) ∧
      ∃ x3 : NumV, View.has V1 (Option.map (fun q => Addr.add q (Int.toNat x2.t17 * 5)) p0.a) (x3.val).cells.toList ∧ Option.isSome (Option.map (fun q => Addr.add q (Int.toNat x2.t17 * 5)) p0.a) = true ∧
      ((0 : Int) ≤ (Int.tmod (IntKind.i64.wrap ((IntKind.i64.wrap (x2.t17 + (Int.tmod p1 (p0.len : Int)))) + (p0.len : Int))) (p0.len : Int)) ∧ ((Int.tmod (IntKind.i64.wrap ((IntKind.i64.wrap (x2.t17 + (Int.tmod p1 (p0.len : Int)))) + (p0.len : Int))) (p0.len : Int)) : Int) < (Int.toNat (p0.len : Int) : Nat)) ∧
      0 + Int.toNat (Int.tmod (IntKind.i64.wrap ((IntKind.i64.wrap (x2.t17 + (Int.tmod p1 (p0.len : Int)))) + (p0.len : Int))) (p0.len : Int)) * 5 + 5 ≤ List.length x2.o14 ∧
      I_transform_Shift_num_Num__0 () (L_transform_Shift_num_Num__0.mk (IntKind.i64.wrap (x2.t17 + 1)) (setL x2.o14 (0 + Int.toNat (Int.tmod (IntKind.i64.wrap ((IntKind.i64.wrap (x2.t17 + (Int.tmod p1 (p0.len : Int)))) + (p0.len : Int))) (p0.len : Int)) * 5) [.bool x3.re.neg, x3.re.mag.v, .bool x3.im.neg, x3.im.mag.v, x3.under.v])) V1 ∧ mu_transform_Shift_num_Num__0 () (L_transform_Shift_num_Num__0.mk (IntKind.i64.wrap (x2.t17 + 1)) (setL x2.o14 (0 + Int.toNat (Int.tmod (IntKind.i64.wrap ((IntKind.i64.wrap (x2.t17 + (Int.tmod p1 (p0.len : Int)))) + (p0.len : Int))) (p0.len : Int)) * 5) [.bool x3.re.neg, x3.re.mag.v, .bool x3.im.neg, x3.im.mag.v, x3.under.v])) V1 < mu_transform_Shift_num_Num__0 () x2 V1) ∧
      ((decide ((x2.t17 : Int) < (p0.len : Int))) = false →
        ∀ (b1 : Nat) (V2 : View), View.le V1 V2 → V2 b1 = some (List.toArray x2.o14) →
    R (.tuple #[(Sl.mk (some (Addr.mk b1 0 none)) (Int.toNat (p0.len : Int)) (Int.toNat (p0.len : Int))).v, .int .i64 0]) V2)))) :
  CallV Try.prog 25 #[p0.v, .int .i64 p1] V R :=
  calls_of_vc (Shp := Shp) hmixed Try.func25 (c := Try.f25.body.getD .skip) (args := [p0.v, .int .i64 p1]) (by kernel_rfl)
    (.seq (.reg [⟨4, 2, false⟩, ⟨5, 2, false⟩]) (.seq (.reg [⟨9, 2, false⟩, ⟨10, 0, false⟩, ⟨6, 2, false⟩]) (.seq (.seq (.reg [⟨11, 2, false⟩, ⟨12, 0, false⟩]) (.cond (.seq (.reg [⟨4, 2, false⟩, ⟨5, 2, false⟩]) .leaf) .leaf)) (.seq (.reg [⟨13, 2, false⟩, ⟨14, 3, false⟩, ⟨7, 2, false⟩]) (.seq (.seq (.reg [⟨15, 2, false⟩, ⟨16, 0, false⟩, ⟨17, 2, false⟩]) (.block (.loop Unit L_transform_Shift_num_Num__0 (fun _ => ()) (fun c x => { tm := spT 37 0 [(0, .val (p0.v)), (1, .val (.int .i64 p1)), (6, .val (.int .i64 (p0.len : Int))), (7, .osl 14 0 (Int.toNat (p0.len : Int)) (Int.toNat (p0.len : Int))), (16, .val (.int .i64 (p0.len : Int))), (17, .val (.int .i64 x.t17))], own := spO 37 0 [(14, ⟨67, .dyn x.o14⟩)] }) I_transform_Shift_num_Num__0 mu_transform_Shift_num_Num__0 (.seq (.reg [⟨18, 0, false⟩]) (.seq (.cond .leaf .leaf) (.seq (.block (.seq (.reg [⟨19, 2, false⟩, ⟨8, 2, false⟩]) (.draw [(0, ⟨20, 2, false⟩), (1, ⟨21, 2, false⟩), (2, ⟨22, 2, false⟩), (3, ⟨23, 2, false⟩), (4, ⟨24, 12, false⟩), (5, ⟨25, 0, false⟩), (6, ⟨26, 2, false⟩), (7, ⟨27, 0, false⟩), (8, ⟨28, 2, false⟩), (9, ⟨29, 12, false⟩), (10, ⟨30, 2, false⟩), (11, ⟨31, 2, false⟩), (12, ⟨32, 7, false⟩), (13, ⟨33, 5, false⟩), (14, ⟨34, 7, false⟩), (15, ⟨14, 6, false⟩)] [0, 0, 0, 0, 12, 30, 0, 126, 0, 510, 0, 0, 3072, 7168, 16383, 32767]))) (.reg [⟨35, 0, false⟩, ⟨17, 2, false⟩]))))))) (.seq (.reg [⟨36, 2, false⟩, ⟨4, 2, false⟩, ⟨5, 2, false⟩]) (.pub 14 .leaf)))))))
    (Eq.mpr (by kernel_rfl) (show ((decide (((p0.len : Int) : Int) > 64)) = true →
      R (.tuple #[(Sl.mk none 0 0).v, .int .i64 4]) V) ∧
    ((decide (((p0.len : Int) : Int) > 64)) = false →
      ((0 : Int) ≤ (p0.len : Int) ∧ ((p0.len : Int) : Int) ≤ (p0.len : Int) ∧ (88 : Int) * (p0.len : Int) ≤ 281474976710656 ∧ ((p0.len : Int) : Int) ≤ 9223372036854775807) ∧
    (∃ x1 : L_transform_Shift_num_Num__0, ((SV.val (p0.v) = SV.val (p0.v) ∧ SV.val (.int .i64 p1) = SV.val (.int .i64 p1) ∧ SV.val (.int .i64 (p0.len : Int)) = SV.val (.int .i64 (p0.len : Int)) ∧ SV.osl 14 0 (Int.toNat (p0.len : Int)) (Int.toNat (p0.len : Int)) = SV.osl 14 0 (Int.toNat (p0.len : Int)) (Int.toNat (p0.len : Int)) ∧ SV.val (.int .i64 (p0.len : Int)) = SV.val (.int .i64 (p0.len : Int)) ∧ SV.val (.int .i64 0) = SV.val (.int .i64 x1.t17) ∧ True) ∧ ((some (⟨67, .dyn ((List.replicate (Int.toNat (p0.len : Int)) [Value.bool false, Value.slice none 0 0, Value.bool false, Value.slice none 0 0, Value.slice none 0 0]).flatten)⟩) : Option OB) = some (⟨67, .dyn x1.o14⟩) ∧ True)) ∧ I_transform_Shift_num_Num__0 () x1 V) ∧
    (∀ (x2 : L_transform_Shift_num_Num__0) (V1 : View), View.le V V1 → I_transform_Shift_num_Num__0 () x2 V1 →
      ((decide ((x2.t17 : Int) < (p0.len : Int))) = true →
        ((p0.len : Int) : Int) ≠ 0 ∧
      ((p0.len : Int) : Int) ≠ 0 ∧
      ((0 : Int) ≤ x2.t17 ∧ (x2.t17 : Int) < (p0.len : Nat) ∧ Option.isSome p0.a = true) ∧
      ∃ x3 : NumV, View.has V1 (Option.map (fun q => Addr.add q (Int.toNat x2.t17 * 5)) p0.a) (x3.val).cells.toList ∧ Option.isSome (Option.map (fun q => Addr.add q (Int.toNat x2.t17 * 5)) p0.a) = true ∧
      ((0 : Int) ≤ (Int.tmod (IntKind.i64.wrap ((IntKind.i64.wrap (x2.t17 + (Int.tmod p1 (p0.len : Int)))) + (p0.len : Int))) (p0.len : Int)) ∧ ((Int.tmod (IntKind.i64.wrap ((IntKind.i64.wrap (x2.t17 + (Int.tmod p1 (p0.len : Int)))) + (p0.len : Int))) (p0.len : Int)) : Int) < (Int.toNat (p0.len : Int) : Nat)) ∧
      0 + Int.toNat (Int.tmod (IntKind.i64.wrap ((IntKind.i64.wrap (x2.t17 + (Int.tmod p1 (p0.len : Int)))) + (p0.len : Int))) (p0.len : Int)) * 5 + 5 ≤ List.length x2.o14 ∧
      ∃ x4 : L_transform_Shift_num_Num__0, ((SV.val (p0.v) = SV.val (p0.v) ∧ SV.val (.int .i64 p1) = SV.val (.int .i64 p1) ∧ SV.val (.int .i64 (p0.len : Int)) = SV.val (.int .i64 (p0.len : Int)) ∧ SV.osl 14 0 (Int.toNat (p0.len : Int)) (Int.toNat (p0.len : Int)) = SV.osl 14 0 (Int.toNat (p0.len : Int)) (Int.toNat (p0.len : Int)) ∧ SV.val (.int .i64 (p0.len : Int)) = SV.val (.int .i64 (p0.len : Int)) ∧ SV.val (.int .i64 (IntKind.i64.wrap (x2.t17 + 1))) = SV.val (.int .i64 x4.t17) ∧ True) ∧ ((some (⟨67, .dyn (setL x2.o14 (0 + Int.toNat (Int.tmod (IntKind.i64.wrap ((IntKind.i64.wrap (x2.t17 + (Int.tmod p1 (p0.len : Int)))) + (p0.len : Int))) (p0.len : Int)) * 5) [.bool x3.re.neg, x3.re.mag.v, .bool x3.im.neg, x3.im.mag.v, x3.under.v])⟩) : Option OB) = some (⟨67, .dyn x4.o14⟩) ∧ True)) ∧ I_transform_Shift_num_Num__0 () x4 V1 ∧ mu_transform_Shift_num_Num__0 () x4 V1 < mu_transform_Shift_num_Num__0 () x2 V1) ∧
      ((decide ((x2.t17 : Int) < (p0.len : Int))) = false →
        ∀ (b1 : Nat) (V2 : View), View.le V1 V2 → V2 b1 = some (List.toArray x2.o14) →
    R (.tuple #[(Sl.mk (some (Addr.mk b1 0 none)) (Int.toNat (p0.len : Int)) (Int.toNat (p0.len : Int))).v, .int .i64 0]) V2))) from ⟨fun h9 => (h.1 h9), fun h9 => ⟨(h.2 h9).1, ⟨⟨(L_transform_Shift_num_Num__0.mk 0 ((List.replicate (Int.toNat (p0.len : Int)) [Value.bool false, Value.slice none 0 0, Value.bool false, Value.slice none 0 0, Value.slice none 0 0]).flatten)), ⟨⟨rfl, rfl, rfl, rfl, rfl, rfl, trivial⟩, ⟨rfl, trivial⟩⟩, (h.2 h9).2.1⟩, fun x2 V1 h7 h8 => ⟨fun h6 => ⟨(((h.2 h9).2.2 x2 V1 h7 h8).1 h6).1, ⟨(((h.2 h9).2.2 x2 V1 h7 h8).1 h6).2.1, ⟨(((h.2 h9).2.2 x2 V1 h7 h8).1 h6).2.2.1, (match (((h.2 h9).2.2 x2 V1 h7 h8).1 h6).2.2.2 with | ⟨x3, h2, h3, h1⟩ => ⟨x3, h2, h3, ⟨h1.1, ⟨h1.2.1, ⟨(L_transform_Shift_num_Num__0.mk (IntKind.i64.wrap (x2.t17 + 1)) (setL x2.o14 (0 + Int.toNat (Int.tmod (IntKind.i64.wrap ((IntKind.i64.wrap (x2.t17 + (Int.tmod p1 (p0.len : Int)))) + (p0.len : Int))) (p0.len : Int)) * 5) [.bool x3.re.neg, x3.re.mag.v, .bool x3.im.neg, x3.im.mag.v, x3.under.v])), ⟨⟨rfl, rfl, rfl, rfl, rfl, rfl, trivial⟩, ⟨rfl, trivial⟩⟩, h1.2.2.1, h1.2.2.2⟩⟩⟩⟩)⟩⟩⟩, fun h6 => (fun b1 V2 h4 h5 => ((((h.2 h9).2.2 x2 V1 h7 h8).2 h6) b1 V2 h4 h5))⟩⟩⟩⟩))

/-- waveport/waveportref07.pair -/
theorem waveportref07_pair_vc (p0 : Sl) (p1 : Sl) (V : View) (R : Value → View → Prop) 
  (h :
    ((((p0.len : Int) : Int) == (p1.len : Int)) = true →
    R (.bool (decide (((p0.len : Int) : Int) ≤ 64))) V) ∧
    ((((p0.len : Int) : Int) == (p1.len : Int)) = false →
    R (.bool false) V)) :
  CallV Try.prog 76 #[p0.v, p1.v] V R :=
  calls_of_vc (Shp := Shp) hmixed Try.func76 (c := Try.f76.body.getD .skip) (args := [p0.v, p1.v]) (by kernel_rfl)
    (.seq (.reg [⟨4, 2, false⟩]) (.seq (.reg [⟨5, 2, false⟩, ⟨6, 0, false⟩, ⟨7, 2, false⟩, ⟨8, 0, false⟩, ⟨9, 0, false⟩, ⟨10, 2, true⟩, ⟨11, 2, false⟩, ⟨12, 0, false⟩, ⟨13, 0, false⟩, ⟨14, 2, false⟩, ⟨4, 2, false⟩]) .leaf))
    (Eq.mpr (by kernel_rfl) h)

/-- waveport/waveportref07.Moved -/
theorem waveportref07_Moved_vc (p0 : Int) (p1 : Int) (p2 : Int) (V : View) (R : Value → View → Prop) 
  (h :
    (p2 : Int) ≠ 0 ∧
    ((decide (((Int.tmod p1 p2) : Int) < 0)) = true →
      (p2 : Int) ≠ 0 ∧
    R (.int .i64 (Int.tmod (IntKind.i64.wrap (p0 + (IntKind.i64.wrap ((Int.tmod p1 p2) + p2)))) p2)) V) ∧
    ((decide (((Int.tmod p1 p2) : Int) < 0)) = false →
      (p2 : Int) ≠ 0 ∧
    R (.int .i64 (Int.tmod (IntKind.i64.wrap (p0 + (Int.tmod p1 p2))) p2)) V)) :
  CallV Try.prog 77 #[.int .i64 p0, .int .i64 p1, .int .i64 p2] V R :=
  calls_of_vc (Shp := Shp) hmixed Try.func77 (c := Try.f77.body.getD .skip) (args := [.int .i64 p0, .int .i64 p1, .int .i64 p2]) (by kernel_rfl)
    (.seq (.reg [⟨6, 2, false⟩]) (.seq (.reg [⟨8, 2, false⟩, ⟨9, 2, false⟩, ⟨10, 12, false⟩, ⟨7, 2, false⟩]) (.seq (.seq (.reg [⟨11, 2, false⟩, ⟨12, 0, false⟩]) (.cond (.reg [⟨13, 2, false⟩, ⟨14, 2, false⟩, ⟨15, 0, false⟩, ⟨7, 2, false⟩]) .leaf)) (.seq (.reg [⟨16, 2, false⟩, ⟨17, 2, false⟩, ⟨18, 0, false⟩, ⟨19, 2, false⟩, ⟨20, 12, false⟩, ⟨6, 2, false⟩]) .leaf))))
    (Eq.mpr (by kernel_rfl) h)

structure L_waveportref07_Shift_0 where
  t7 : Int
  o14 : List Value
/-- waveport/waveportref07.Shift -/
theorem waveportref07_Shift_vc (p0 : Sl) (p1 : Int) (V : View) (R : Value → View → Prop) (I_waveportref07_Shift_0 : Unit → L_waveportref07_Shift_0 → View → Prop) (mu_waveportref07_Shift_0 : Unit → L_waveportref07_Shift_0 → View → Nat)
  (h :
    CallV Try.prog 76 #[p0.v, p0.v] V fun v V1 => ∃ r1 : Bool, v = .bool r1 ∧ -- waveportref07.pair
    ((!r1) = true →
      R (.tuple #[(Sl.mk none 0 0).v, .int .i64 4]) V1) ∧
    ((!r1) = false →
      ((0 : Int) ≤ (p0.len : Int) ∧ ((p0.len : Int) : Int) ≤ (p0.len : Int) ∧ (88 : Int) * (p0.len : Int) ≤ 281474976710656 ∧ ((p0.len : Int) : Int) ≤ 9223372036854775807) ∧
    I_waveportref07_Shift_0 () (L_waveportref07_Shift_0.mk 0 ((List.replicate (Int.toNat (p0.len : Int)) [Value.bool false, Value.slice none 0 0, Value.bool false, Value.slice none 0 0, Value.slice none 0 0]).flatten)) V1 ∧
    (∀ (x2 : L_waveportref07_Shift_0) (V2 : View), View.le V1 V2 → I_waveportref07_Shift_0 () x2 V2 →
      ((decide ((x2.t7 : Int) < (p0.len : Int))) = true →
        ((0 : Int) ≤ x2.t7 ∧ (x2.t7 : Int) < (p0.len : Nat) ∧ Option.isSome p0.a = true) ∧
      ∃ x3 : NumV, View.has V2 (Option.map (fun q => Addr.add q (Int.toNat x2.t7 * 5)) p0.a) (x3.val).cells.toList ∧ Option.isSome (Option.map (fun q => Addr.add q (Int.toNat x2.t7 * 5)) p0.a) = true ∧
      CallV Try.prog 77 #[.int .i64 x2.t7, .int .i64 p1, .int .i64 (p0.len : Int)] V2 fun v V3 => ∃ r2 : Int, v = .int .i64 r2 ∧ -- waveportref07.Moved
      ((0 : Int) ≤ r2 ∧ (r2 : Int) < (Int.toNat (p0.len : Int) : Nat)) ∧
      0 + Int.toNat r2 * 5 + 5 ≤ List.length x2.o14 ∧
      I_waveportref07_Shift_0 () (L_waveportref07_Shift_0.mk (IntKind.i64.wrap (x2.t7 + 1)) (setL x2.o14 (0 + Int.toNat r2 * 5) [.bool x3.re.neg, x3.re.mag.v, .bool x3.im.neg, x3.im.mag.v, x3.under.v])) V3 ∧ mu_waveportref07_Shift_0 () (L_waveportref07_Shift_0.mk (IntKind.i64.wrap (x2.t7 + 1)) (setL x2.o14 (0 + Int.toNat r2 * 5) [.bool x3.re.neg, x3.re.mag.v, .bool x3.im.neg, x3.im.mag.v, x3.under.v])) V3 < mu_waveportref07_Shift_0 () x2 V2) ∧
      ((decide ((x2.t7 : Int) < (p0.len : Int))) = false →
        ∀ (b1 : Nat) (V4 : View), View.le V2 V4 → V4 b1 = some (List.toArray x2.o14) →
    R (.tuple #[(Sl.mk (some (Addr.mk b1 0 none)) (Int.toNat (p0.len : Int)) (Int.toNat (p0.len : Int))).v, .int .i64 0]) V4)))) :
  CallV Try.prog 27 #[p0.v, .int .i64 p1] V R :=
  calls_of_vc (Shp := Shp) hmixed Try.func27 (c := Try.f27.body.getD .skip) (args := [p0.v, .int .i64 p1]) (by kernel_rfl)
    (.seq (.reg [⟨4, 2, false⟩, ⟨5, 2, false⟩]) (.seq (.seq (.reg [⟨8, 2, false⟩, ⟨9, 2, false⟩, ⟨10, 10, false⟩, ⟨11, 0, false⟩]) (.cond (.seq (.reg [⟨4, 2, false⟩, ⟨5, 2, false⟩]) .leaf) .leaf)) (.seq (.reg [⟨12, 2, false⟩, ⟨13, 0, false⟩, ⟨14, 3, false⟩, ⟨6, 2, false⟩]) (.seq (.seq (.reg [⟨7, 2, false⟩]) (.block (.loop Unit L_waveportref07_Shift_0 (fun _ => ()) (fun c x => { tm := spT 33 0 [(0, .val (p0.v)), (1, .val (.int .i64 p1)), (6, .osl 14 0 (Int.toNat (p0.len : Int)) (Int.toNat (p0.len : Int))), (7, .val (.int .i64 x.t7))], own := spO 33 0 [(14, ⟨77, .dyn x.o14⟩)] }) I_waveportref07_Shift_0 mu_waveportref07_Shift_0 (.seq (.seq (.reg [⟨15, 2, false⟩, ⟨16, 2, false⟩, ⟨17, 0, false⟩, ⟨18, 0, false⟩]) (.cond .leaf .leaf)) (.seq (.block (.draw [(0, ⟨21, 2, false⟩), (1, ⟨22, 2, false⟩), (2, ⟨23, 2, false⟩), (3, ⟨24, 2, false⟩), (4, ⟨25, 0, false⟩), (6, ⟨27, 2, false⟩), (7, ⟨28, 2, false⟩), (8, ⟨29, 7, false⟩), (9, ⟨30, 5, false⟩), (5, ⟨26, 10, false⟩), (10, ⟨31, 7, false⟩), (11, ⟨14, 6, false⟩)] [0, 0, 0, 0, 8, 30, 0, 0, 192, 448, 1023, 2047])) (.reg [⟨19, 2, false⟩, ⟨20, 0, false⟩, ⟨7, 2, false⟩])))))) (.seq (.reg [⟨32, 2, false⟩, ⟨4, 2, false⟩, ⟨5, 2, false⟩]) (.pub 14 .leaf))))))
    (Eq.mpr (by kernel_rfl) (show CallV Try.prog 76 #[p0.v, p0.v] V fun v V1 => ∃ r1 : Bool, v = .bool r1 ∧ -- waveportref07.pair
    ((!r1) = true →
      R (.tuple #[(Sl.mk none 0 0).v, .int .i64 4]) V1) ∧
    ((!r1) = false →
      ((0 : Int) ≤ (p0.len : Int) ∧ ((p0.len : Int) : Int) ≤ (p0.len : Int) ∧ (88 : Int) * (p0.len : Int) ≤ 281474976710656 ∧ ((p0.len : Int) : Int) ≤ 9223372036854775807) ∧
    (∃ x1 : L_waveportref07_Shift_0, ((SV.val (p0.v) = SV.val (p0.v) ∧ SV.val (.int .i64 p1) = SV.val (.int .i64 p1) ∧ SV.osl 14 0 (Int.toNat (p0.len : Int)) (Int.toNat (p0.len : Int)) = SV.osl 14 0 (Int.toNat (p0.len : Int)) (Int.toNat (p0.len : Int)) ∧ SV.val (.int .i64 0) = SV.val (.int .i64 x1.t7) ∧ True) ∧ ((some (⟨77, .dyn ((List.replicate (Int.toNat (p0.len : Int)) [Value.bool false, Value.slice none 0 0, Value.bool false, Value.slice none 0 0, Value.slice none 0 0]).flatten)⟩) : Option OB) = some (⟨77, .dyn x1.o14⟩) ∧ True)) ∧ I_waveportref07_Shift_0 () x1 V1) ∧
    (∀ (x2 : L_waveportref07_Shift_0) (V2 : View), View.le V1 V2 → I_waveportref07_Shift_0 () x2 V2 →
      ((decide ((x2.t7 : Int) < (p0.len : Int))) = true →
        ((0 : Int) ≤ x2.t7 ∧ (x2.t7 : Int) < (p0.len : Nat) ∧ Option.isSome p0.a = true) ∧
      ∃ x3 : NumV, View.has V2 (Option.map (fun q => Addr.add q (Int.toNat x2.t7 * 5)) p0.a) (x3.val).cells.toList ∧ Option.isSome (Option.map (fun q => Addr.add q (Int.toNat x2.t7 * 5)) p0.a) = true ∧
      CallV Try.prog 77 #[.int .i64 x2.t7, .int .i64 p1, .int .i64 (p0.len : Int)] V2 fun v V3 => ∃ r2 : Int, v = .int .i64 r2 ∧ -- waveportref07.Moved
      ((0 : Int) ≤ r2 ∧ (r2 : Int) < (Int.toNat (p0.len : Int) : Nat)) ∧
      0 + Int.toNat r2 * 5 + 5 ≤ List.length x2.o14 ∧
      ∃ x4 : L_waveportref07_Shift_0, ((SV.val (p0.v) = SV.val (p0.v) ∧ SV.val (.int .i64 p1) = SV.val (.int .i64 p1) ∧ SV.osl 14 0 (Int.toNat (p0.len : Int)) (Int.toNat (p0.len : Int)) = SV.osl 14 0 (Int.toNat (p0.len : Int)) (Int.toNat (p0.len : Int)) ∧ SV.val (.int .i64 (IntKind.i64.wrap (x2.t7 + 1))) = SV.val (.int .i64 x4.t7) ∧ True) ∧ ((some (⟨77, .dyn (setL x2.o14 (0 + Int.toNat r2 * 5) [.bool x3.re.neg, x3.re.mag.v, .bool x3.im.neg, x3.im.mag.v, x3.under.v])⟩) : Option OB) = some (⟨77, .dyn x4.o14⟩) ∧ True)) ∧ I_waveportref07_Shift_0 () x4 V3 ∧ mu_waveportref07_Shift_0 () x4 V3 < mu_waveportref07_Shift_0 () x2 V2) ∧
      ((decide ((x2.t7 : Int) < (p0.len : Int))) = false →
        ∀ (b1 : Nat) (V4 : View), View.le V2 V4 → V4 b1 = some (List.toArray x2.o14) →
    R (.tuple #[(Sl.mk (some (Addr.mk b1 0 none)) (Int.toNat (p0.len : Int)) (Int.toNat (p0.len : Int))).v, .int .i64 0]) V4))) from (CallV.mono h (fun _ _ _ ⟨r1, h13, h12⟩ => ⟨r1, h13, ⟨fun h11 => (h12.1 h11), fun h11 => ⟨(h12.2 h11).1, ⟨⟨(L_waveportref07_Shift_0.mk 0 ((List.replicate (Int.toNat (p0.len : Int)) [Value.bool false, Value.slice none 0 0, Value.bool false, Value.slice none 0 0, Value.slice none 0 0]).flatten)), ⟨⟨rfl, rfl, rfl, rfl, trivial⟩, ⟨rfl, trivial⟩⟩, (h12.2 h11).2.1⟩, fun x2 V2 h9 h10 => ⟨fun h8 => ⟨(((h12.2 h11).2.2 x2 V2 h9 h10).1 h8).1, (match (((h12.2 h11).2.2 x2 V2 h9 h10).1 h8).2 with | ⟨x3, h4, h5, h3⟩ => ⟨x3, h4, h5, (CallV.mono h3 (fun _ _ _ ⟨r2, h2, h1⟩ => ⟨r2, h2, ⟨h1.1, ⟨h1.2.1, ⟨(L_waveportref07_Shift_0.mk (IntKind.i64.wrap (x2.t7 + 1)) (setL x2.o14 (0 + Int.toNat r2 * 5) [.bool x3.re.neg, x3.re.mag.v, .bool x3.im.neg, x3.im.mag.v, x3.under.v])), ⟨⟨rfl, rfl, rfl, rfl, trivial⟩, ⟨rfl, trivial⟩⟩, h1.2.2.1, h1.2.2.2⟩⟩⟩⟩))⟩)⟩, fun h8 => (fun b1 V4 h6 h7 => ((((h12.2 h11).2.2 x2 V2 h9 h10).2 h8) b1 V4 h6 h7))⟩⟩⟩⟩⟩))))

structure L_waveportref07_Extend_0 where
  t8 : Int
  o18 : List Value
/-- waveport/waveportref07.Extend -/
theorem waveportref07_Extend_vc (p0 : Sl) (p1 : NumV) (V : View) (R : Value → View → Prop) (I_waveportref07_Extend_0 : Unit → L_waveportref07_Extend_0 → View → Prop) (mu_waveportref07_Extend_0 : Unit → L_waveportref07_Extend_0 → View → Nat)
  (h :
    CallV Try.prog 62 #[.int .i64 (IntKind.i64.wrap (2 * (IntKind.i64.wrap ((p0.len : Int) + 1))))] V fun v V1 => ∃ r1 : Bool, v = .bool r1 ∧ -- waveportref07.Length
    ((!r1) = true →
      R (.tuple #[(Sl.mk none 0 0).v, .int .i64 4]) V1) ∧
    ((!r1) = false →
      ((0 : Int) ≤ (IntKind.i64.wrap (2 * (IntKind.i64.wrap ((p0.len : Int) + 1)))) ∧ ((IntKind.i64.wrap (2 * (IntKind.i64.wrap ((p0.len : Int) + 1)))) : Int) ≤ (IntKind.i64.wrap (2 * (IntKind.i64.wrap ((p0.len : Int) + 1)))) ∧ (88 : Int) * (IntKind.i64.wrap (2 * (IntKind.i64.wrap ((p0.len : Int) + 1)))) ≤ 281474976710656 ∧ ((IntKind.i64.wrap (2 * (IntKind.i64.wrap ((p0.len : Int) + 1)))) : Int) ≤ 9223372036854775807) ∧
    ((0 : Int) ≤ 0 ∧ (0 : Int) < (Int.toNat (IntKind.i64.wrap (2 * (IntKind.i64.wrap ((p0.len : Int) + 1)))) : Nat)) ∧
    0 + Int.toNat 0 * 5 + 5 ≤ List.length ((List.replicate (Int.toNat (IntKind.i64.wrap (2 * (IntKind.i64.wrap ((p0.len : Int) + 1))))) [Value.bool false, Value.slice none 0 0, Value.bool false, Value.slice none 0 0, Value.slice none 0 0]).flatten) ∧
    CallV Try.prog 64 #[.int .i64 0] V1 fun v V2 => ∃ r2 : NumV, v = r2.val ∧ -- waveportref01.Whole
    ((0 : Int) ≤ (IntKind.i64.wrap ((p0.len : Int) + 1)) ∧ ((IntKind.i64.wrap ((p0.len : Int) + 1)) : Int) < (Int.toNat (IntKind.i64.wrap (2 * (IntKind.i64.wrap ((p0.len : Int) + 1)))) : Nat)) ∧
    0 + Int.toNat (IntKind.i64.wrap ((p0.len : Int) + 1)) * 5 + 5 ≤ List.length (setL ((List.replicate (Int.toNat (IntKind.i64.wrap (2 * (IntKind.i64.wrap ((p0.len : Int) + 1))))) [Value.bool false, Value.slice none 0 0, Value.bool false, Value.slice none 0 0, Value.slice none 0 0]).flatten) (0 + Int.toNat 0 * 5) [.bool p1.re.neg, p1.re.mag.v, .bool p1.im.neg, p1.im.mag.v, p1.under.v]) ∧
    I_waveportref07_Extend_0 () (L_waveportref07_Extend_0.mk 1 (setL (setL ((List.replicate (Int.toNat (IntKind.i64.wrap (2 * (IntKind.i64.wrap ((p0.len : Int) + 1))))) [Value.bool false, Value.slice none 0 0, Value.bool false, Value.slice none 0 0, Value.slice none 0 0]).flatten) (0 + Int.toNat 0 * 5) [.bool p1.re.neg, p1.re.mag.v, .bool p1.im.neg, p1.im.mag.v, p1.under.v]) (0 + Int.toNat (IntKind.i64.wrap ((p0.len : Int) + 1)) * 5) [.bool r2.re.neg, r2.re.mag.v, .bool r2.im.neg, r2.im.mag.v, r2.under.v])) V2 ∧
    (∀ (x2 : L_waveportref07_Extend_0) (V3 : View), View.le V2 V3 → I_waveportref07_Extend_0 () x2 V3 →
      ((decide ((x2.t8 : Int) < (IntKind.i64.wrap ((p0.len : Int) + 1)))) = true →
        ((0 : Int) ≤ (IntKind.i64.wrap (x2.t8 - 1)) ∧ ((IntKind.i64.wrap (x2.t8 - 1)) : Int) < (p0.len : Nat) ∧ Option.isSome p0.a = true) ∧
      ∃ x3 : NumV, View.has V3 (Option.map (fun q => Addr.add q (Int.toNat (IntKind.i64.wrap (x2.t8 - 1)) * 5)) p0.a) (x3.val).cells.toList ∧ Option.isSome (Option.map (fun q => Addr.add q (Int.toNat (IntKind.i64.wrap (x2.t8 - 1)) * 5)) p0.a) = true ∧
      ((0 : Int) ≤ x2.t8 ∧ (x2.t8 : Int) < (Int.toNat (IntKind.i64.wrap (2 * (IntKind.i64.wrap ((p0.len : Int) + 1)))) : Nat)) ∧
      0 + Int.toNat x2.t8 * 5 + 5 ≤ List.length x2.o18 ∧
      ((0 : Int) ≤ (IntKind.i64.wrap (x2.t8 - 1)) ∧ ((IntKind.i64.wrap (x2.t8 - 1)) : Int) < (p0.len : Nat) ∧ Option.isSome p0.a = true) ∧
      ∃ x4 : NumV, View.has V3 (Option.map (fun q => Addr.add q (Int.toNat (IntKind.i64.wrap (x2.t8 - 1)) * 5)) p0.a) (x4.val).cells.toList ∧ Option.isSome (Option.map (fun q => Addr.add q (Int.toNat (IntKind.i64.wrap (x2.t8 - 1)) * 5)) p0.a) = true ∧
      CallV Try.prog 79 #[x4.val] V3 fun v V4 => ∃ r3 : NumV, v = r3.val ∧ -- waveportref01.Conj
      ((0 : Int) ≤ (IntKind.i64.wrap ((IntKind.i64.wrap (2 * (IntKind.i64.wrap ((p0.len : Int) + 1)))) - x2.t8)) ∧ ((IntKind.i64.wrap ((IntKind.i64.wrap (2 * (IntKind.i64.wrap ((p0.len : Int) + 1)))) - x2.t8)) : Int) < (Int.toNat (IntKind.i64.wrap (2 * (IntKind.i64.wrap ((p0.len : Int) + 1)))) : Nat)) ∧
      0 + Int.toNat (IntKind.i64.wrap ((IntKind.i64.wrap (2 * (IntKind.i64.wrap ((p0.len : Int) + 1)))) - x2.t8)) * 5 + 5 ≤ List.length (setL x2.o18 (0 + Int.toNat x2.t8 * 5) [.bool x3.re.neg, x3.re.mag.v, .bool x3.im.neg, x3.im.mag.v, x3.under.v]) ∧
      I_waveportref07_Extend_0 () (L_waveportref07_Extend_0.mk (IntKind.i64.wrap (x2.t8 + 1)) (setL (setL x2.o18 (0 + Int.toNat x2.t8 * 5) [.bool x3.re.neg, x3.re.mag.v, .bool x3.im.neg, x3.im.mag.v, x3.under.v]) (0 + Int.toNat (IntKind.i64.wrap ((IntKind.i64.wrap (2 * (IntKind.i64.wrap ((p0.len : Int) + 1)))) - x2.t8)) * 5) [.bool r3.re.neg, r3.re.mag.v, .bool r3.im.neg, r3.im.mag.v, r3.under.v])) V4 ∧ mu_waveportref07_Extend_0 () (L_waveportref07_Extend_0.mk (IntKind.i64.wrap (x2.t8 + 1)) (setL (setL x2.o18 (0 + Int.toNat x2.t8 * 5) [.bool x3.re.neg, x3.re.mag.v, .bool x3.im.neg, x3.im.mag.v, x3.under.v]) (0 + Int.toNat (IntKind.i64.wrap ((IntKind.i64.wrap (2 * (IntKind.i64.wrap ((p0.len : Int) + 1)))) - x2.t8)) * 5) [.bool r3.re.neg, r3.re.mag.v, .bool r3.im.neg, r3.im.mag.v, r3.under.v])) V4 < mu_waveportref07_Extend_0 () x2 V3) ∧
      ((decide ((x2.t8 : Int) < (IntKind.i64.wrap ((p0.len : Int) + 1)))) = false →
        ∀ (b1 : Nat) (V5 : View), View.le V3 V5 → V5 b1 = some (List.toArray x2.o18) →
    R (.tuple #[(Sl.mk (some (Addr.mk b1 0 none)) (Int.toNat (IntKind.i64.wrap (2 * (IntKind.i64.wrap ((p0.len : Int) + 1))))) (Int.toNat (IntKind.i64.wrap (2 * (IntKind.i64.wrap ((p0.len : Int) + 1)))))).v, .int .i64 0]) V5)))) :
  CallV Try.prog 31 #[p0.v, p1.val] V R :=
  calls_of_vc (Shp := Shp) hmixed Try.func31 (c := Try.f31.body.getD .skip) (args := [p0.v, p1.val]) (by kernel_rfl)
    (.seq (.reg [⟨3, 3, false⟩, ⟨4, 2, false⟩, ⟨5, 2, false⟩]) (.seq (.reg [⟨9, 2, false⟩, ⟨10, 0, false⟩, ⟨11, 0, false⟩, ⟨6, 2, false⟩]) (.seq (.seq (.reg [⟨12, 2, false⟩, ⟨13, 0, false⟩, ⟨14, 10, false⟩, ⟨15, 0, false⟩]) (.cond (.seq (.reg [⟨4, 2, false⟩, ⟨5, 2, false⟩]) .leaf) .leaf)) (.seq (.reg [⟨16, 2, false⟩, ⟨17, 0, false⟩, ⟨18, 3, false⟩, ⟨7, 2, false⟩]) (.seq (.reg [⟨19, 2, false⟩, ⟨3, 4, false⟩, ⟨21, 7, false⟩, ⟨18, 6, false⟩]) (.seq (.reg [⟨22, 2, false⟩, ⟨23, 2, false⟩, ⟨24, 10, false⟩, ⟨25, 7, false⟩, ⟨18, 6, false⟩]) (.seq (.seq (.reg [⟨8, 2, false⟩]) (.block (.loop Unit L_waveportref07_Extend_0 (fun _ => ()) (fun c x => { tm := spT 52 0 [(0, .val (p0.v)), (6, .val (.int .i64 (IntKind.i64.wrap ((p0.len : Int) + 1)))), (7, .osl 18 0 (Int.toNat (IntKind.i64.wrap (2 * (IntKind.i64.wrap ((p0.len : Int) + 1))))) (Int.toNat (IntKind.i64.wrap (2 * (IntKind.i64.wrap ((p0.len : Int) + 1)))))), (8, .val (.int .i64 x.t8))], own := spO 52 0 [(18, ⟨77, .dyn x.o18⟩)] }) I_waveportref07_Extend_0 mu_waveportref07_Extend_0 (.seq (.seq (.reg [⟨26, 2, false⟩, ⟨27, 2, false⟩, ⟨28, 0, false⟩]) (.cond .leaf .leaf)) (.seq (.block (.seq (.reg [⟨31, 2, false⟩, ⟨32, 2, false⟩, ⟨33, 2, false⟩, ⟨34, 2, false⟩, ⟨35, 0, false⟩, ⟨36, 7, false⟩, ⟨37, 5, false⟩, ⟨38, 7, false⟩, ⟨18, 6, false⟩]) (.reg [⟨39, 2, false⟩, ⟨40, 2, false⟩, ⟨41, 0, false⟩, ⟨42, 2, false⟩, ⟨43, 0, false⟩, ⟨44, 2, false⟩, ⟨45, 2, false⟩, ⟨46, 0, false⟩, ⟨47, 7, false⟩, ⟨48, 5, false⟩, ⟨49, 10, false⟩, ⟨50, 7, false⟩, ⟨18, 6, false⟩]))) (.reg [⟨29, 2, false⟩, ⟨30, 0, false⟩, ⟨8, 2, false⟩])))))) (.seq (.reg [⟨51, 2, false⟩, ⟨4, 2, false⟩, ⟨5, 2, false⟩]) (.pub 18 .leaf)))))))))
    (Eq.mpr (by kernel_rfl) (show CallV Try.prog 62 #[.int .i64 (IntKind.i64.wrap (2 * (IntKind.i64.wrap ((p0.len : Int) + 1))))] V fun v V1 => ∃ r1 : Bool, v = .bool r1 ∧ -- waveportref07.Length
    ((!r1) = true →
      R (.tuple #[(Sl.mk none 0 0).v, .int .i64 4]) V1) ∧
    ((!r1) = false →
      ((0 : Int) ≤ (IntKind.i64.wrap (2 * (IntKind.i64.wrap ((p0.len : Int) + 1)))) ∧ ((IntKind.i64.wrap (2 * (IntKind.i64.wrap ((p0.len : Int) + 1)))) : Int) ≤ (IntKind.i64.wrap (2 * (IntKind.i64.wrap ((p0.len : Int) + 1)))) ∧ (88 : Int) * (IntKind.i64.wrap (2 * (IntKind.i64.wrap ((p0.len : Int) + 1)))) ≤ 281474976710656 ∧ ((IntKind.i64.wrap (2 * (IntKind.i64.wrap ((p0.len : Int) + 1)))) : Int) ≤ 9223372036854775807) ∧
    ((0 : Int) ≤ 0 ∧ (0 : Int) < (Int.toNat (IntKind.i64.wrap (2 * (IntKind.i64.wrap ((p0.len : Int) + 1)))) : Nat)) ∧
    0 + Int.toNat 0 * 5 + 5 ≤ List.length ((List.replicate (Int.toNat (IntKind.i64.wrap (2 * (IntKind.i64.wrap ((p0.len : Int) + 1))))) [Value.bool false, Value.slice none 0 0, Value.bool false, Value.slice none 0 0, Value.slice none 0 0]).flatten) ∧
    CallV Try.prog 64 #[.int .i64 0] V1 fun v V2 => ∃ r2 : NumV, v = r2.val ∧ -- waveportref01.Whole
    ((0 : Int) ≤ (IntKind.i64.wrap ((p0.len : Int) + 1)) ∧ ((IntKind.i64.wrap ((p0.len : Int) + 1)) : Int) < (Int.toNat (IntKind.i64.wrap (2 * (IntKind.i64.wrap ((p0.len : Int) + 1)))) : Nat)) ∧
    0 + Int.toNat (IntKind.i64.wrap ((p0.len : Int) + 1)) * 5 + 5 ≤ List.length (setL ((List.replicate (Int.toNat (IntKind.i64.wrap (2 * (IntKind.i64.wrap ((p0.len : Int) + 1))))) [Value.bool false, Value.slice none 0 0, Value.bool false, Value.slice none 0 0, Value.slice none 0 0]).flatten) (0 + Int.toNat 0 * 5) [.bool p1.re.neg, p1.re.mag.v, .bool p1.im.neg, p1.im.mag.v, p1.under.v]) ∧
    (∃ x1 : L_waveportref07_Extend_0, ((SV.val (p0.v) = SV.val (p0.v) ∧ SV.val (.int .i64 (IntKind.i64.wrap ((p0.len : Int) + 1))) = SV.val (.int .i64 (IntKind.i64.wrap ((p0.len : Int) + 1))) ∧ SV.osl 18 0 (Int.toNat (IntKind.i64.wrap (2 * (IntKind.i64.wrap ((p0.len : Int) + 1))))) (Int.toNat (IntKind.i64.wrap (2 * (IntKind.i64.wrap ((p0.len : Int) + 1))))) = SV.osl 18 0 (Int.toNat (IntKind.i64.wrap (2 * (IntKind.i64.wrap ((p0.len : Int) + 1))))) (Int.toNat (IntKind.i64.wrap (2 * (IntKind.i64.wrap ((p0.len : Int) + 1))))) ∧ SV.val (.int .i64 1) = SV.val (.int .i64 x1.t8) ∧ True) ∧ ((some (⟨77, .dyn (setL (setL ((List.replicate (Int.toNat (IntKind.i64.wrap (2 * (IntKind.i64.wrap ((p0.len : Int) + 1))))) [Value.bool false, Value.slice none 0 0, Value.bool false, Value.slice none 0 0, Value.slice none 0 0]).flatten) (0 + Int.toNat 0 * 5) [.bool p1.re.neg, p1.re.mag.v, .bool p1.im.neg, p1.im.mag.v, p1.under.v]) (0 + Int.toNat (IntKind.i64.wrap ((p0.len : Int) + 1)) * 5) [.bool r2.re.neg, r2.re.mag.v, .bool r2.im.neg, r2.im.mag.v, r2.under.v])⟩) : Option OB) = some (⟨77, .dyn x1.o18⟩) ∧ True)) ∧ I_waveportref07_Extend_0 () x1 V2) ∧
    (∀ (x2 : L_waveportref07_Extend_0) (V3 : View), View.le V2 V3 → I_waveportref07_Extend_0 () x2 V3 →
      ((decide ((x2.t8 : Int) < (IntKind.i64.wrap ((p0.len : Int) + 1)))) = true →
        ((0 : Int) ≤ (IntKind.i64.wrap (x2.t8 - 1)) ∧ ((IntKind.i64.wrap (x2.t8 - 1)) : Int) < (p0.len : Nat) ∧ Option.isSome p0.a = true) ∧
      ∃ x3 : NumV, View.has V3 (Option.map (fun q => Addr.add q (Int.toNat (IntKind.i64.wrap (x2.t8 - 1)) * 5)) p0.a) (x3.val).cells.toList ∧ Option.isSome (Option.map (fun q => Addr.add q (Int.toNat (IntKind.i64.wrap (x2.t8 - 1)) * 5)) p0.a) = true ∧
      ((0 : Int) ≤ x2.t8 ∧ (x2.t8 : Int) < (Int.toNat (IntKind.i64.wrap (2 * (IntKind.i64.wrap ((p0.len : Int) + 1)))) : Nat)) ∧
      0 + Int.toNat x2.t8 * 5 + 5 ≤ List.length x2.o18 ∧
      ((0 : Int) ≤ (IntKind.i64.wrap (x2.t8 - 1)) ∧ ((IntKind.i64.wrap (x2.t8 - 1)) : Int) < (p0.len : Nat) ∧ Option.isSome p0.a = true) ∧
      ∃ x4 : NumV, View.has V3 (Option.map (fun q => Addr.add q (Int.toNat (IntKind.i64.wrap (x2.t8 - 1)) * 5)) p0.a) (x4.val).cells.toList ∧ Option.isSome (Option.map (fun q => Addr.add q (Int.toNat (IntKind.i64.wrap (x2.t8 - 1)) * 5)) p0.a) = true ∧
      CallV Try.prog 79 #[x4.val] V3 fun v V4 => ∃ r3 : NumV, v = r3.val ∧ -- waveportref01.Conj
      ((0 : Int) ≤ (IntKind.i64.wrap ((IntKind.i64.wrap (2 * (IntKind.i64.wrap ((p0.len : Int) + 1)))) - x2.t8)) ∧ ((IntKind.i64.wrap ((IntKind.i64.wrap (2 * (IntKind.i64.wrap ((p0.len : Int) + 1)))) - x2.t8)) : Int) < (Int.toNat (IntKind.i64.wrap (2 * (IntKind.i64.wrap ((p0.len : Int) + 1)))) : Nat)) ∧
      0 + Int.toNat (IntKind.i64.wrap ((IntKind.i64.wrap (2 * (IntKind.i64.wrap ((p0.len : Int) + 1)))) - x2.t8)) * 5 + 5 ≤ List.length (setL x2.o18 (0 + Int.toNat x2.t8 * 5) [.bool x3.re.neg, x3.re.mag.v, .bool x3.im.neg, x3.im.mag.v, x3.under.v]) ∧
      ∃ x5 : L_waveportref07_Extend_0, ((SV.val (p0.v) = SV.val (p0.v) ∧ SV.val (.int .i64 (IntKind.i64.wrap ((p0.len : Int) + 1))) = SV.val (.int .i64 (IntKind.i64.wrap ((p0.len : Int) + 1))) ∧ SV.osl 18 0 (Int.toNat (IntKind.i64.wrap (2 * (IntKind.i64.wrap ((p0.len : Int) + 1))))) (Int.toNat (IntKind.i64.wrap (2 * (IntKind.i64.wrap ((p0.len : Int) + 1))))) = SV.osl 18 0 (Int.toNat (IntKind.i64.wrap (2 * (IntKind.i64.wrap ((p0.len : Int) + 1))))) (Int.toNat (IntKind.i64.wrap (2 * (IntKind.i64.wrap ((p0.len : Int) + 1))))) ∧ SV.val (.int .i64 (IntKind.i64.wrap (x2.t8 + 1))) = SV.val (.int .i64 x5.t8) ∧ True) ∧ ((some (⟨77, .dyn (setL (setL x2.o18 (0 + Int.toNat x2.t8 * 5) [.bool x3.re.neg, x3.re.mag.v, .bool x3.im.neg, x3.im.mag.v, x3.under.v]) (0 + Int.toNat (IntKind.i64.wrap ((IntKind.i64.wrap (2 * (IntKind.i64.wrap ((p0.len : Int) + 1)))) - x2.t8)) * 5) [.bool r3.re.neg, r3.re.mag.v, .bool r3.im.neg, r3.im.mag.v, r3.under.v])⟩) : Option OB) = some (⟨77, .dyn x5.o18⟩) ∧ True)) ∧ I_waveportref07_Extend_0 () x5 V4 ∧ mu_waveportref07_Extend_0 () x5 V4 < mu_waveportref07_Extend_0 () x2 V3) ∧
      ((decide ((x2.t8 : Int) < (IntKind.i64.wrap ((p0.len : Int) + 1)))) = false →
        ∀ (b1 : Nat) (V5 : View), View.le V3 V5 → V5 b1 = some (List.toArray x2.o18) →
    R (.tuple #[(Sl.mk (some (Addr.mk b1 0 none)) (Int.toNat (IntKind.i64.wrap (2 * (IntKind.i64.wrap ((p0.len : Int) + 1))))) (Int.toNat (IntKind.i64.wrap (2 * (IntKind.i64.wrap ((p0.len : Int) + 1)))))).v, .int .i64 0]) V5))) from (CallV.mono h (fun _ _ _ ⟨r1, h18, h17⟩ => ⟨r1, h18, ⟨fun h16 => (h17.1 h16), fun h16 => ⟨(h17.2 h16).1, ⟨(h17.2 h16).2.1, ⟨(h17.2 h16).2.2.1, (CallV.mono (h17.2 h16).2.2.2 (fun _ _ _ ⟨r2, h15, h14⟩ => ⟨r2, h15, ⟨h14.1, ⟨h14.2.1, ⟨⟨(L_waveportref07_Extend_0.mk 1 (setL (setL ((List.replicate (Int.toNat (IntKind.i64.wrap (2 * (IntKind.i64.wrap ((p0.len : Int) + 1))))) [Value.bool false, Value.slice none 0 0, Value.bool false, Value.slice none 0 0, Value.slice none 0 0]).flatten) (0 + Int.toNat 0 * 5) [.bool p1.re.neg, p1.re.mag.v, .bool p1.im.neg, p1.im.mag.v, p1.under.v]) (0 + Int.toNat (IntKind.i64.wrap ((p0.len : Int) + 1)) * 5) [.bool r2.re.neg, r2.re.mag.v, .bool r2.im.neg, r2.im.mag.v, r2.under.v])), ⟨⟨rfl, rfl, rfl, rfl, trivial⟩, ⟨rfl, trivial⟩⟩, h14.2.2.1⟩, fun x2 V3 h12 h13 => ⟨fun h11 => ⟨((h14.2.2.2 x2 V3 h12 h13).1 h11).1, (match ((h14.2.2.2 x2 V3 h12 h13).1 h11).2 with | ⟨x3, h7, h8, h6⟩ => ⟨x3, h7, h8, ⟨h6.1, ⟨h6.2.1, ⟨h6.2.2.1, (match h6.2.2.2 with | ⟨x4, h4, h5, h3⟩ => ⟨x4, h4, h5, (CallV.mono h3 (fun _ _ _ ⟨r3, h2, h1⟩ => ⟨r3, h2, ⟨h1.1, ⟨h1.2.1, ⟨(L_waveportref07_Extend_0.mk (IntKind.i64.wrap (x2.t8 + 1)) (setL (setL x2.o18 (0 + Int.toNat x2.t8 * 5) [.bool x3.re.neg, x3.re.mag.v, .bool x3.im.neg, x3.im.mag.v, x3.under.v]) (0 + Int.toNat (IntKind.i64.wrap ((IntKind.i64.wrap (2 * (IntKind.i64.wrap ((p0.len : Int) + 1)))) - x2.t8)) * 5) [.bool r3.re.neg, r3.re.mag.v, .bool r3.im.neg, r3.im.mag.v, r3.under.v])), ⟨⟨rfl, rfl, rfl, rfl, trivial⟩, ⟨rfl, trivial⟩⟩, h1.2.2.1, h1.2.2.2⟩⟩⟩⟩))⟩)⟩⟩⟩⟩)⟩, fun h11 => (fun b1 V5 h9 h10 => (((h14.2.2.2 x2 V3 h12 h13).2 h11) b1 V5 h9 h10))⟩⟩⟩⟩⟩))⟩⟩⟩⟩⟩))))

/-- waveport/transform.Zero[waveport/num.Num] -/
theorem transform_Zero_num_Num__vc (p0 : Sl) (V : View) (R : Value → View → Prop) 
  (h :
    ((decide (((p0.len : Int) : Int) < 2)) = true →
    (true = true →
      R (.tuple #[(NumV.mk (WhV.mk false (Sl.mk none 0 0)) (WhV.mk false (Sl.mk none 0 0)) (Sl.mk none 0 0)).val, .int .i64 4]) V) ∧
    (true = false →
      ((0 : Int) ≤ 0 ∧ (0 : Int) < (p0.len : Nat) ∧ Option.isSome p0.a = true) ∧
    ∃ x1 : NumV, View.has V (Option.map (fun q => Addr.add q (Int.toNat 0 * 5)) p0.a) (x1.val).cells.toList ∧ Option.isSome (Option.map (fun q => Addr.add q (Int.toNat 0 * 5)) p0.a) = true ∧
    ((0 : Int) ≤ 0 ∧ (0 : Int) < (p0.len : Nat) ∧ Option.isSome p0.a = true) ∧
    ∃ x2 : NumV, View.has V (Option.map (fun q => Addr.add q (Int.toNat 0 * 5)) p0.a) (x2.val).cells.toList ∧ Option.isSome (Option.map (fun q => Addr.add q (Int.toNat 0 * 5)) p0.a) = true ∧
    ((0 : Int) ≤ 1 ∧ (1 : Int) < (p0.len : Nat) ∧ Option.isSome p0.a = true) ∧
    ∃ x3 : NumV, View.has V (Option.map (fun q => Addr.add q (Int.toNat 1 * 5)) p0.a) (x3.val).cells.toList ∧ Option.isSome (Option.map (fun q => Addr.add q (Int.toNat 1 * 5)) p0.a) = true ∧
    CallV Try.prog 66 #[x2.val, x3.val] V fun v V1 => ∃ r1 : NumV, v = r1.val ∧ -- (num.Num).Sub
    CallV Try.prog 102 #[x1.val, r1.val] V1 fun v V2 => ∃ r2 : NumV, v = r2.val ∧ -- (num.Num).Add
    CallV Try.prog 231 #[r2.val] V2 fun v V3 => ∃ r3 : NumV, v = r3.val ∧ -- (num.Num).Conj
    CallV Try.prog 102 #[r2.val, r3.val] V3 fun v V4 => ∃ r4 : NumV, v = r4.val ∧ -- (num.Num).Add
    CallV Try.prog 78 #[.int .i64 1, .int .i64 2] V4 fun v V5 => ∃ r5 : NumV, v = r5.val ∧ -- transform.of[num.Num]
    CallV Try.prog 67 #[r4.val, r5.val] V5 fun v V6 => ∃ r6 : NumV, v = r6.val ∧ -- (num.Num).Mul
    R (.tuple #[r6.val, .int .i64 0]) V6)) ∧
    ((decide (((p0.len : Int) : Int) < 2)) = false →
    ((decide (((p0.len : Int) : Int) > 64)) = true →
      R (.tuple #[(NumV.mk (WhV.mk false (Sl.mk none 0 0)) (WhV.mk false (Sl.mk none 0 0)) (Sl.mk none 0 0)).val, .int .i64 4]) V) ∧
    ((decide (((p0.len : Int) : Int) > 64)) = false →
      ((0 : Int) ≤ 0 ∧ (0 : Int) < (p0.len : Nat) ∧ Option.isSome p0.a = true) ∧
    ∃ x4 : NumV, View.has V (Option.map (fun q => Addr.add q (Int.toNat 0 * 5)) p0.a) (x4.val).cells.toList ∧ Option.isSome (Option.map (fun q => Addr.add q (Int.toNat 0 * 5)) p0.a) = true ∧
    ((0 : Int) ≤ 0 ∧ (0 : Int) < (p0.len : Nat) ∧ Option.isSome p0.a = true) ∧
    ∃ x5 : NumV, View.has V (Option.map (fun q => Addr.add q (Int.toNat 0 * 5)) p0.a) (x5.val).cells.toList ∧ Option.isSome (Option.map (fun q => Addr.add q (Int.toNat 0 * 5)) p0.a) = true ∧
    ((0 : Int) ≤ 1 ∧ (1 : Int) < (p0.len : Nat) ∧ Option.isSome p0.a = true) ∧
    ∃ x6 : NumV, View.has V (Option.map (fun q => Addr.add q (Int.toNat 1 * 5)) p0.a) (x6.val).cells.toList ∧ Option.isSome (Option.map (fun q => Addr.add q (Int.toNat 1 * 5)) p0.a) = true ∧
    CallV Try.prog 66 #[x5.val, x6.val] V fun v V7 => ∃ r7 : NumV, v = r7.val ∧ -- (num.Num).Sub
    CallV Try.prog 102 #[x4.val, r7.val] V7 fun v V8 => ∃ r8 : NumV, v = r8.val ∧ -- (num.Num).Add
    CallV Try.prog 231 #[r8.val] V8 fun v V9 => ∃ r9 : NumV, v = r9.val ∧ -- (num.Num).Conj
    CallV Try.prog 102 #[r8.val, r9.val] V9 fun v V10 => ∃ r10 : NumV, v = r10.val ∧ -- (num.Num).Add
    CallV Try.prog 78 #[.int .i64 1, .int .i64 2] V10 fun v V11 => ∃ r11 : NumV, v = r11.val ∧ -- transform.of[num.Num]
    CallV Try.prog 67 #[r10.val, r11.val] V11 fun v V12 => ∃ r12 : NumV, v = r12.val ∧ -- (num.Num).Mul
    R (.tuple #[r12.val, .int .i64 0]) V12))) :
  CallV Try.prog 33 #[p0.v] V R :=
  calls_of_vc (Shp := Shp) hmixed Try.func33 (c := Try.f33.body.getD .skip) (args := [p0.v]) (by kernel_rfl)
    (.seq (.reg [⟨2, 3, false⟩, ⟨3, 2, false⟩]) (.seq (.seq (.reg [⟨6, 2, false⟩, ⟨7, 0, false⟩, ⟨8, 0, false⟩, ⟨9, 2, true⟩, ⟨10, 2, false⟩, ⟨11, 0, false⟩, ⟨12, 0, false⟩, ⟨13, 2, false⟩]) (.cond (.seq (.reg [⟨4, 3, false⟩]) (.seq (.reg [⟨4, 4, false⟩, ⟨2, 6, false⟩, ⟨3, 2, false⟩]) .leaf)) .leaf)) (.seq (.draw [(0, ⟨15, 2, false⟩), (1, ⟨16, 7, false⟩), (2, ⟨17, 5, false⟩), (3, ⟨18, 0, false⟩), (4, ⟨19, 2, false⟩), (5, ⟨20, 7, false⟩), (6, ⟨21, 5, false⟩), (7, ⟨22, 0, false⟩), (8, ⟨23, 2, false⟩), (9, ⟨24, 7, false⟩), (10, ⟨25, 5, false⟩), (13, ⟨5, 3, false⟩), (11, ⟨26, 10, false⟩), (12, ⟨27, 10, false⟩), (14, ⟨5, 6, false⟩)] [0, 1, 3, 7, 0, 16, 48, 112, 0, 256, 768, 2032, 4095, 0, 16383]) (.seq (.draw [(0, ⟨5, 4, false⟩), (1, ⟨29, 0, false⟩), (2, ⟨5, 4, false⟩), (3, ⟨31, 0, false⟩), (4, ⟨32, 10, false⟩), (5, ⟨33, 10, false⟩), (6, ⟨34, 0, false⟩), (7, ⟨35, 10, false⟩), (8, ⟨36, 10, false⟩), (9, ⟨2, 6, false⟩), (10, ⟨3, 2, false⟩)] [0, 1, 0, 4, 12, 31, 63, 63, 255, 511, 1023]) .leaf))))
    (Eq.mpr (by kernel_rfl) h)

/-- waveport/waveportref07.Zero -/
theorem waveportref07_Zero_vc (p0 : Sl) (V : View) (R : Value → View → Prop) 
  (h :
    ((decide (((p0.len : Int) : Int) < 2)) = true →
    (true = true →
      CallV Try.prog 64 #[.int .i64 0] V fun v V1 => ∃ r1 : NumV, v = r1.val ∧ -- waveportref01.Whole
      R (.tuple #[r1.val, .int .i64 4]) V1) ∧
    (true = false →
      CallV Try.prog 63 #[.int .i64 1, .int .i64 0, .int .i64 2] V fun v V2 => ∃ (r2 : NumV) (r3 : Int), v = .tuple #[r2.val, .int .i64 r3] ∧ -- waveportref01.New
    ((0 : Int) ≤ 0 ∧ (0 : Int) < (p0.len : Nat) ∧ Option.isSome p0.a = true) ∧
    ∃ x1 : NumV, View.has V2 (Option.map (fun q => Addr.add q (Int.toNat 0 * 5)) p0.a) (x1.val).cells.toList ∧ Option.isSome (Option.map (fun q => Addr.add q (Int.toNat 0 * 5)) p0.a) = true ∧
    ((0 : Int) ≤ 0 ∧ (0 : Int) < (p0.len : Nat) ∧ Option.isSome p0.a = true) ∧
    ∃ x2 : NumV, View.has V2 (Option.map (fun q => Addr.add q (Int.toNat 0 * 5)) p0.a) (x2.val).cells.toList ∧ Option.isSome (Option.map (fun q => Addr.add q (Int.toNat 0 * 5)) p0.a) = true ∧
    ((0 : Int) ≤ 1 ∧ (1 : Int) < (p0.len : Nat) ∧ Option.isSome p0.a = true) ∧
    ∃ x3 : NumV, View.has V2 (Option.map (fun q => Addr.add q (Int.toNat 1 * 5)) p0.a) (x3.val).cells.toList ∧ Option.isSome (Option.map (fun q => Addr.add q (Int.toNat 1 * 5)) p0.a) = true ∧
    CallV Try.prog 70 #[x2.val, x3.val] V2 fun v V3 => ∃ r4 : NumV, v = r4.val ∧ -- waveportref01.Sub
    CallV Try.prog 80 #[x1.val, r4.val] V3 fun v V4 => ∃ r5 : NumV, v = r5.val ∧ -- waveportref01.Add
    CallV Try.prog 79 #[r5.val] V4 fun v V5 => ∃ r6 : NumV, v = r6.val ∧ -- waveportref01.Conj
    CallV Try.prog 80 #[r5.val, r6.val] V5 fun v V6 => ∃ r7 : NumV, v = r7.val ∧ -- waveportref01.Add
    CallV Try.prog 65 #[r7.val, r2.val] V6 fun v V7 => ∃ r8 : NumV, v = r8.val ∧ -- waveportref01.Mul
    R (.tuple #[r8.val, .int .i64 0]) V7)) ∧
    ((decide (((p0.len : Int) : Int) < 2)) = false →
    ((decide (((p0.len : Int) : Int) > 64)) = true →
      CallV Try.prog 64 #[.int .i64 0] V fun v V8 => ∃ r9 : NumV, v = r9.val ∧ -- waveportref01.Whole
      R (.tuple #[r9.val, .int .i64 4]) V8) ∧
    ((decide (((p0.len : Int) : Int) > 64)) = false →
      CallV Try.prog 63 #[.int .i64 1, .int .i64 0, .int .i64 2] V fun v V9 => ∃ (r10 : NumV) (r11 : Int), v = .tuple #[r10.val, .int .i64 r11] ∧ -- waveportref01.New
    ((0 : Int) ≤ 0 ∧ (0 : Int) < (p0.len : Nat) ∧ Option.isSome p0.a = true) ∧
    ∃ x4 : NumV, View.has V9 (Option.map (fun q => Addr.add q (Int.toNat 0 * 5)) p0.a) (x4.val).cells.toList ∧ Option.isSome (Option.map (fun q => Addr.add q (Int.toNat 0 * 5)) p0.a) = true ∧
    ((0 : Int) ≤ 0 ∧ (0 : Int) < (p0.len : Nat) ∧ Option.isSome p0.a = true) ∧
    ∃ x5 : NumV, View.has V9 (Option.map (fun q => Addr.add q (Int.toNat 0 * 5)) p0.a) (x5.val).cells.toList ∧ Option.isSome (Option.map (fun q => Addr.add q (Int.toNat 0 * 5)) p0.a) = true ∧
    ((0 : Int) ≤ 1 ∧ (1 : Int) < (p0.len : Nat) ∧ Option.isSome p0.a = true) ∧
    ∃ x6 : NumV, View.has V9 (Option.map (fun q => Addr.add q (Int.toNat 1 * 5)) p0.a) (x6.val).cells.toList ∧ Option.isSome (Option.map (fun q => Addr.add q (Int.toNat 1 * 5)) p0.a) = true ∧
    CallV Try.prog 70 #[x5.val, x6.val] V9 fun v V10 => ∃ r12 : NumV, v = r12.val ∧ -- waveportref01.Sub
    CallV Try.prog 80 #[x4.val, r12.val] V10 fun v V11 => ∃ r13 : NumV, v = r13.val ∧ -- waveportref01.Add
    CallV Try.prog 79 #[r13.val] V11 fun v V12 => ∃ r14 : NumV, v = r14.val ∧ -- waveportref01.Conj
    CallV Try.prog 80 #[r13.val, r14.val] V12 fun v V13 => ∃ r15 : NumV, v = r15.val ∧ -- waveportref01.Add
    CallV Try.prog 65 #[r15.val, r10.val] V13 fun v V14 => ∃ r16 : NumV, v = r16.val ∧ -- waveportref01.Mul
    R (.tuple #[r16.val, .int .i64 0]) V14))) :
  CallV Try.prog 34 #[p0.v] V R :=
  calls_of_vc (Shp := Shp) hmixed Try.func34 (c := Try.f34.body.getD .skip) (args := [p0.v]) (by kernel_rfl)
    (.seq (.reg [⟨2, 3, false⟩, ⟨3, 2, false⟩]) (.seq (.seq (.reg [⟨7, 2, false⟩, ⟨8, 0, false⟩, ⟨9, 0, false⟩, ⟨10, 2, true⟩, ⟨11, 2, false⟩, ⟨12, 0, false⟩, ⟨13, 0, false⟩, ⟨14, 2, false⟩]) (.cond (.seq (.reg [⟨15, 10, false⟩, ⟨2, 6, false⟩, ⟨3, 2, false⟩]) .leaf) .leaf)) (.seq (.reg [⟨17, 10, false⟩, ⟨16, 2, false⟩, ⟨18, 0, false⟩, ⟨19, 0, false⟩, ⟨4, 3, false⟩, ⟨4, 6, false⟩, ⟨5, 2, false⟩]) (.seq (.draw [(0, ⟨20, 2, false⟩), (1, ⟨21, 7, false⟩), (2, ⟨22, 5, false⟩), (3, ⟨23, 2, false⟩), (4, ⟨24, 7, false⟩), (5, ⟨25, 5, false⟩), (6, ⟨26, 2, false⟩), (7, ⟨27, 7, false⟩), (8, ⟨28, 5, false⟩), (11, ⟨6, 3, false⟩), (9, ⟨29, 10, false⟩), (10, ⟨30, 10, false⟩), (12, ⟨6, 6, false⟩)] [0, 1, 3, 0, 8, 24, 0, 64, 192, 504, 1023, 0, 4095]) (.seq (.draw [(0, ⟨6, 4, false⟩), (1, ⟨6, 4, false⟩), (4, ⟨4, 4, false⟩), (2, ⟨33, 10, false⟩), (3, ⟨34, 10, false⟩), (5, ⟨36, 10, false⟩), (6, ⟨2, 6, false⟩), (7, ⟨3, 2, false⟩)] [0, 0, 2, 7, 0, 31, 63, 127]) .leaf)))))
    (Eq.mpr (by kernel_rfl) h)

/-- waveport/waveportlaw07.TransformShifts -/
theorem waveportlaw07_TransformShifts_vc (p0 : Sl) (p1 : Int) (p2 : Int) (p3 : RatV) (V : View) (R : Value → View → Prop) 
  (h :
    ((decide (((p0.len : Int) : Int) > 8)) = true →
      CallV Try.prog 23 #[] V fun v V1 => ∃ r1 : Bool, v = .bool r1 ∧ -- waveportlaw07.awake
      R (.bool r1) V1) ∧
    ((decide (((p0.len : Int) : Int) > 8)) = false →
      CallV Try.prog 24 #[p0.v, .int .i64 (Int.tmod (IntKind.i64.wrap p1) 71)] V fun v V2 => ∃ r2 : Sl, v = r2.v ∧ -- waveportlaw07.repeated
    CallV Try.prog 26 #[r2.v] V2 fun v V3 => ∃ r3 : Sl, v = r3.v ∧ -- waveportlaw01.List
    CallV Try.prog 25 #[r3.v, .int .i64 p2] V3 fun v V4 => ∃ (r4 : Sl) (r5 : Int), v = .tuple #[r4.v, .int .i64 r5] ∧ -- transform.Shift[num.Num]
    CallV Try.prog 28 #[r2.v] V4 fun v V5 => ∃ r6 : Sl, v = r6.v ∧ -- waveportlaw07.refList
    CallV Try.prog 27 #[r6.v, .int .i64 p2] V5 fun v V6 => ∃ (r7 : Sl) (r8 : Int), v = .tuple #[r7.v, .int .i64 r8] ∧ -- waveportref07.Shift
    CallV Try.prog 22 #[r4.v, .int .i64 r5, r7.v, .int .i64 r8] V6 fun v V7 => ∃ r9 : Bool, v = .bool r9 ∧ -- waveportlaw07.answers
    ((!r9) = true →
      R (.bool false) V7) ∧
    ((!r9) = false →
      CallV Try.prog 26 #[r2.v] V7 fun v V8 => ∃ r10 : Sl, v = r10.v ∧ -- waveportlaw01.List
    CallV Try.prog 30 #[p3.val] V8 fun v V9 => ∃ r11 : NumV, v = r11.val ∧ -- waveportlaw01.Of
    CallV Try.prog 29 #[r10.v, r11.val] V9 fun v V10 => ∃ (r12 : Sl) (r13 : Int), v = .tuple #[r12.v, .int .i64 r13] ∧ -- transform.Extend[num.Num]
    CallV Try.prog 28 #[r2.v] V10 fun v V11 => ∃ r14 : Sl, v = r14.v ∧ -- waveportlaw07.refList
    CallV Try.prog 32 #[p3.val] V11 fun v V12 => ∃ r15 : NumV, v = r15.val ∧ -- waveportref01.Of
    CallV Try.prog 31 #[r14.v, r15.val] V12 fun v V13 => ∃ (r16 : Sl) (r17 : Int), v = .tuple #[r16.v, .int .i64 r17] ∧ -- waveportref07.Extend
    CallV Try.prog 26 #[r2.v] V13 fun v V14 => ∃ r18 : Sl, v = r18.v ∧ -- waveportlaw01.List
    CallV Try.prog 33 #[r18.v] V14 fun v V15 => ∃ (r19 : NumV) (r20 : Int), v = .tuple #[r19.val, .int .i64 r20] ∧ -- transform.Zero[num.Num]
    CallV Try.prog 28 #[r2.v] V15 fun v V16 => ∃ r21 : Sl, v = r21.v ∧ -- waveportlaw07.refList
    CallV Try.prog 34 #[r21.v] V16 fun v V17 => ∃ (r22 : NumV) (r23 : Int), v = .tuple #[r22.val, .int .i64 r23] ∧ -- waveportref07.Zero
    CallV Try.prog 22 #[r12.v, .int .i64 r13, r16.v, .int .i64 r17] V17 fun v V18 => ∃ r24 : Bool, v = .bool r24 ∧ -- waveportlaw07.answers
    (r24 = true →
    (((r20 : Int) == r23) = true →
    CallV Try.prog 35 #[r19.val, r22.val] V18 fun v V19 => ∃ r25 : Bool, v = .bool r25 ∧ -- waveportlaw01.Is
    (r25 = true →
    CallV Try.prog 23 #[] V19 fun v V20 => ∃ r26 : Bool, v = .bool r26 ∧ -- waveportlaw07.awake
    R (.bool r26) V20) ∧
    (r25 = false →
    R (.bool false) V19)) ∧
    (((r20 : Int) == r23) = false →
    (false = true →
    CallV Try.prog 23 #[] V18 fun v V21 => ∃ r27 : Bool, v = .bool r27 ∧ -- waveportlaw07.awake
    R (.bool r27) V21) ∧
    (false = false →
    R (.bool false) V18))) ∧
    (r24 = false →
    (false = true →
    CallV Try.prog 35 #[r19.val, r22.val] V18 fun v V22 => ∃ r28 : Bool, v = .bool r28 ∧ -- waveportlaw01.Is
    (r28 = true →
    CallV Try.prog 23 #[] V22 fun v V23 => ∃ r29 : Bool, v = .bool r29 ∧ -- waveportlaw07.awake
    R (.bool r29) V23) ∧
    (r28 = false →
    R (.bool false) V22)) ∧
    (false = false →
    (false = true →
    CallV Try.prog 23 #[] V18 fun v V24 => ∃ r30 : Bool, v = .bool r30 ∧ -- waveportlaw07.awake
    R (.bool r30) V24) ∧
    (false = false →
    R (.bool false) V18)))))) :
  CallV Try.prog 6 #[p0.v, .int .u8 p1, .int .i64 p2, p3.val] V R :=
  calls_of_vc (Shp := Shp) hmixed Try.func6 (c := Try.f6.body.getD .skip) (args := [p0.v, .int .u8 p1, .int .i64 p2, p3.val]) (by kernel_rfl)
    (.seq (.reg [⟨7, 3, false⟩, ⟨8, 2, false⟩]) (.seq (.seq (.reg [⟨18, 2, false⟩, ⟨19, 0, false⟩, ⟨20, 0, false⟩]) (.cond (.seq (.reg [⟨21, 10, false⟩, ⟨8, 2, false⟩]) .leaf) .leaf)) (.seq (.reg [⟨22, 2, false⟩, ⟨23, 2, false⟩, ⟨24, 0, false⟩, ⟨25, 0, false⟩, ⟨26, 10, false⟩, ⟨9, 2, false⟩]) (.seq (.reg [⟨28, 2, false⟩, ⟨29, 10, false⟩, ⟨30, 2, false⟩, ⟨31, 10, false⟩, ⟨27, 2, false⟩, ⟨32, 0, false⟩, ⟨33, 0, false⟩, ⟨10, 2, false⟩, ⟨11, 2, false⟩]) (.seq (.reg [⟨35, 2, false⟩, ⟨36, 10, false⟩, ⟨37, 2, false⟩, ⟨38, 10, false⟩, ⟨34, 2, false⟩, ⟨39, 0, false⟩, ⟨40, 0, false⟩, ⟨12, 2, false⟩, ⟨13, 2, false⟩]) (.seq (.seq (.reg [⟨41, 2, false⟩, ⟨42, 2, false⟩, ⟨43, 2, false⟩, ⟨44, 2, false⟩, ⟨45, 10, false⟩, ⟨46, 0, false⟩]) (.cond (.seq (.reg [⟨8, 2, false⟩]) .leaf) .leaf)) (.seq (.draw [(0, ⟨48, 2, false⟩), (2, ⟨7, 4, false⟩), (1, ⟨49, 10, false⟩), (3, ⟨51, 10, false⟩), (4, ⟨52, 10, false⟩), (5, ⟨47, 2, false⟩), (6, ⟨53, 0, false⟩), (7, ⟨54, 0, false⟩), (8, ⟨10, 2, false⟩), (9, ⟨11, 2, false⟩)] [0, 1, 0, 7, 15, 31, 63, 63, 127, 511]) (.seq (.draw [(0, ⟨56, 2, false⟩), (2, ⟨7, 4, false⟩), (1, ⟨57, 10, false⟩), (3, ⟨59, 10, false⟩), (4, ⟨60, 10, false⟩), (5, ⟨55, 2, false⟩), (6, ⟨61, 0, false⟩), (7, ⟨62, 0, false⟩), (8, ⟨12, 2, false⟩), (9, ⟨13, 2, false⟩)] [0, 1, 0, 7, 15, 31, 63, 63, 127, 511]) (.seq (.reg [⟨64, 2, false⟩, ⟨65, 10, false⟩, ⟨66, 10, false⟩, ⟨63, 2, false⟩, ⟨67, 0, false⟩, ⟨68, 0, false⟩, ⟨14, 3, false⟩, ⟨14, 6, false⟩, ⟨15, 2, false⟩]) (.seq (.reg [⟨70, 2, false⟩, ⟨71, 10, false⟩, ⟨72, 10, false⟩, ⟨69, 2, false⟩, ⟨73, 0, false⟩, ⟨74, 0, false⟩, ⟨16, 3, false⟩, ⟨16, 6, false⟩, ⟨17, 2, false⟩]) (.seq (.reg [⟨75, 2, false⟩, ⟨76, 2, false⟩, ⟨77, 2, false⟩, ⟨78, 2, false⟩, ⟨79, 10, false⟩, ⟨80, 2, true⟩, ⟨81, 2, false⟩, ⟨82, 2, false⟩, ⟨83, 0, false⟩, ⟨84, 2, false⟩, ⟨85, 2, true⟩, ⟨14, 4, false⟩, ⟨16, 4, false⟩, ⟨88, 10, false⟩, ⟨89, 2, false⟩, ⟨90, 2, true⟩, ⟨91, 10, false⟩, ⟨92, 2, false⟩, ⟨8, 2, false⟩]) .leaf)))))))))))
    (Eq.mpr (by kernel_rfl) h)

end Go.Proofs.Ytcapadojlaojkaa
