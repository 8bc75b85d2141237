/- Part of the proof; it has the parts FLng. -/
import Derived.Test.YtcapadojlaojkaaFStage
set_option maxRecDepth 100000
set_option maxHeartbeats 4000000
namespace Go.Proofs.Ytcapadojlaojkaa
open Go Go.Vc Go.Proofs

/-- waveport/transform.listed[waveport/num.Num,waveport/num.Num] -/
theorem transform_listed_num_Num_num_Num__vc (p0 : Sl) (p1 : Sl) (V : View) (R : Value → View → Prop) 
  (h :
    ((((p0.len : Int) : Int) == (p1.len : Int)) = true →
    R (.bool (decide (((p0.len : Int) : Int) ≤ 64))) V) ∧
    ((((p0.len : Int) : Int) == (p1.len : Int)) = false →
    R (.bool false) V)) :
  CallV Try.prog 82 #[p0.v, p1.v] V R :=
  calls_of_vc (Shp := Shp) hmixed Try.func82 (c := Try.f82.body.getD .skip) (args := [p0.v, p1.v]) (by kernel_rfl)
    (.seq (.reg [⟨4, 2, false⟩]) (.seq (.reg [⟨5, 2, false⟩, ⟨6, 0, false⟩, ⟨7, 2, false⟩, ⟨8, 0, false⟩, ⟨9, 0, false⟩, ⟨10, 2, true⟩, ⟨11, 2, false⟩, ⟨12, 0, false⟩, ⟨13, 0, false⟩, ⟨14, 2, false⟩, ⟨4, 2, false⟩]) .leaf))
    (Eq.mpr (by kernel_rfl) h)

structure L_transform_Times_num_Num__0 where
  t17 : Int
  o14 : List Value
/-- waveport/transform.Times[waveport/num.Num] -/
theorem transform_Times_num_Num__vc (p0 : Sl) (p1 : Sl) (V : View) (R : Value → View → Prop) (I_transform_Times_num_Num__0 : Unit → L_transform_Times_num_Num__0 → View → Prop) (mu_transform_Times_num_Num__0 : Unit → L_transform_Times_num_Num__0 → View → Nat)
  (h :
    CallV Try.prog 82 #[p0.v, p1.v] V fun v V1 => ∃ r1 : Bool, v = .bool r1 ∧ -- transform.listed[num.Num,num.Num]
    ((!r1) = true →
      R (.tuple #[(Sl.mk none 0 0).v, .int .i64 4]) V1) ∧
    ((!r1) = false →
      ((0 : Int) ≤ (p0.len : Int) ∧ ((p0.len : Int) : Int) ≤ (p0.len : Int) ∧ (88 : Int) * (p0.len : Int) ≤ 281474976710656 ∧ ((p0.len : Int) : Int) ≤ 9223372036854775807) ∧
    I_transform_Times_num_Num__0 () (L_transform_Times_num_Num__0.mk 0 ((List.replicate (Int.toNat (p0.len : Int)) [Value.bool false, Value.slice none 0 0, Value.bool false, Value.slice none 0 0, Value.slice none 0 0]).flatten)) V1 ∧
    (∀ (x2 : L_transform_Times_num_Num__0) (V2 : View), View.le V1 V2 → I_transform_Times_num_Num__0 () x2 V2 →
      ((decide ((x2.t17 : Int) < (p0.len : Int))) = true →
        ((0 : Int) ≤ x2.t17 ∧ (x2.t17 : Int) < (p0.len : Nat) ∧ Option.isSome p0.a = true) ∧
      ∃ x3 : NumV, View.has V2 (Option.map (fun q => Addr.add q (Int.toNat x2.t17 * 5)) p0.a) (x3.val).cells.toList ∧ Option.isSome (Option.map (fun q => Addr.add q (Int.toNat x2.t17 * 5)) p0.a) = true ∧
      ((0 : Int) ≤ x2.t17 ∧ (x2.t17 : Int) < (p1.len : Nat) ∧ Option.isSome p1.a = true) ∧
      ∃ x4 : NumV, View.has V2 (Option.map (fun q => Addr.add q (Int.toNat x2.t17 * 5)) p1.a) (x4.val).cells.toList ∧ Option.isSome (Option.map (fun q => Addr.add q (Int.toNat x2.t17 * 5)) p1.a) = true ∧
      CallV Try.prog 67 #[x3.val, x4.val] V2 fun v V3 => ∃ r2 : NumV, v = r2.val ∧ -- (num.Num).Mul
      ((0 : Int) ≤ x2.t17 ∧ (x2.t17 : Int) < (Int.toNat (p0.len : Int) : Nat)) ∧
      0 + Int.toNat x2.t17 * 5 + 5 ≤ List.length x2.o14 ∧
      I_transform_Times_num_Num__0 () (L_transform_Times_num_Num__0.mk (IntKind.i64.wrap (x2.t17 + 1)) (setL x2.o14 (0 + Int.toNat x2.t17 * 5) [.bool r2.re.neg, r2.re.mag.v, .bool r2.im.neg, r2.im.mag.v, r2.under.v])) V3 ∧ mu_transform_Times_num_Num__0 () (L_transform_Times_num_Num__0.mk (IntKind.i64.wrap (x2.t17 + 1)) (setL x2.o14 (0 + Int.toNat x2.t17 * 5) [.bool r2.re.neg, r2.re.mag.v, .bool r2.im.neg, r2.im.mag.v, r2.under.v])) V3 < mu_transform_Times_num_Num__0 () x2 V2) ∧
      ((decide ((x2.t17 : Int) < (p0.len : Int))) = false →
        ∀ (b1 : Nat) (V4 : View), View.le V2 V4 → V4 b1 = some (List.toArray x2.o14) →
    R (.tuple #[(Sl.mk (some (Addr.mk b1 0 none)) (Int.toNat (p0.len : Int)) (Int.toNat (p0.len : Int))).v, .int .i64 0]) V4)))) :
  CallV Try.prog 36 #[p0.v, p1.v] V R :=
  calls_of_vc (Shp := Shp) hmixed Try.func36 (c := Try.f36.body.getD .skip) (args := [p0.v, p1.v]) (by kernel_rfl)
    (.seq (.reg [⟨4, 2, false⟩, ⟨5, 2, false⟩]) (.seq (.seq (.reg [⟨8, 2, false⟩, ⟨9, 2, false⟩, ⟨10, 10, false⟩, ⟨11, 0, false⟩]) (.cond (.seq (.reg [⟨4, 2, false⟩, ⟨5, 2, false⟩]) .leaf) .leaf)) (.seq (.reg [⟨12, 2, false⟩, ⟨13, 0, false⟩, ⟨14, 3, false⟩, ⟨6, 2, false⟩]) (.seq (.seq (.reg [⟨15, 2, false⟩, ⟨16, 0, false⟩, ⟨17, 2, false⟩]) (.block (.loop Unit L_transform_Times_num_Num__0 (fun _ => ()) (fun c x => { tm := spT 35 0 [(0, .val (p0.v)), (1, .val (p1.v)), (6, .osl 14 0 (Int.toNat (p0.len : Int)) (Int.toNat (p0.len : Int))), (16, .val (.int .i64 (p0.len : Int))), (17, .val (.int .i64 x.t17))], own := spO 35 0 [(14, ⟨67, .dyn x.o14⟩)] }) I_transform_Times_num_Num__0 mu_transform_Times_num_Num__0 (.seq (.reg [⟨18, 0, false⟩]) (.seq (.cond .leaf .leaf) (.seq (.block (.seq (.reg [⟨19, 2, false⟩, ⟨7, 2, false⟩]) (.draw [(0, ⟨20, 2, false⟩), (1, ⟨21, 2, false⟩), (2, ⟨22, 2, false⟩), (3, ⟨23, 2, false⟩), (4, ⟨24, 7, false⟩), (5, ⟨25, 5, false⟩), (6, ⟨26, 0, false⟩), (7, ⟨27, 2, false⟩), (8, ⟨28, 2, false⟩), (9, ⟨29, 7, false⟩), (10, ⟨30, 5, false⟩), (11, ⟨31, 10, false⟩), (12, ⟨32, 7, false⟩), (13, ⟨14, 6, false⟩)] [0, 0, 0, 0, 12, 28, 60, 0, 0, 384, 896, 2044, 4095, 8191]))) (.reg [⟨33, 0, false⟩, ⟨17, 2, false⟩]))))))) (.seq (.reg [⟨34, 2, false⟩, ⟨4, 2, false⟩, ⟨5, 2, false⟩]) (.pub 14 .leaf))))))
    (Eq.mpr (by kernel_rfl) (show CallV Try.prog 82 #[p0.v, p1.v] V fun v V1 => ∃ r1 : Bool, v = .bool r1 ∧ -- transform.listed[num.Num,num.Num]
    ((!r1) = true →
      R (.tuple #[(Sl.mk none 0 0).v, .int .i64 4]) V1) ∧
    ((!r1) = false →
      ((0 : Int) ≤ (p0.len : Int) ∧ ((p0.len : Int) : Int) ≤ (p0.len : Int) ∧ (88 : Int) * (p0.len : Int) ≤ 281474976710656 ∧ ((p0.len : Int) : Int) ≤ 9223372036854775807) ∧
    (∃ x1 : L_transform_Times_num_Num__0, ((SV.val (p0.v) = SV.val (p0.v) ∧ SV.val (p1.v) = SV.val (p1.v) ∧ SV.osl 14 0 (Int.toNat (p0.len : Int)) (Int.toNat (p0.len : Int)) = SV.osl 14 0 (Int.toNat (p0.len : Int)) (Int.toNat (p0.len : Int)) ∧ SV.val (.int .i64 (p0.len : Int)) = SV.val (.int .i64 (p0.len : Int)) ∧ SV.val (.int .i64 0) = SV.val (.int .i64 x1.t17) ∧ True) ∧ ((some (⟨67, .dyn ((List.replicate (Int.toNat (p0.len : Int)) [Value.bool false, Value.slice none 0 0, Value.bool false, Value.slice none 0 0, Value.slice none 0 0]).flatten)⟩) : Option OB) = some (⟨67, .dyn x1.o14⟩) ∧ True)) ∧ I_transform_Times_num_Num__0 () x1 V1) ∧
    (∀ (x2 : L_transform_Times_num_Num__0) (V2 : View), View.le V1 V2 → I_transform_Times_num_Num__0 () x2 V2 →
      ((decide ((x2.t17 : Int) < (p0.len : Int))) = true →
        ((0 : Int) ≤ x2.t17 ∧ (x2.t17 : Int) < (p0.len : Nat) ∧ Option.isSome p0.a = true) ∧
      ∃ x3 : NumV, View.has V2 (Option.map (fun q => Addr.add q (Int.toNat x2.t17 * 5)) p0.a) (x3.val).cells.toList ∧ Option.isSome (Option.map (fun q => Addr.add q (Int.toNat x2.t17 * 5)) p0.a) = true ∧
      ((0 : Int) ≤ x2.t17 ∧ (x2.t17 : Int) < (p1.len : Nat) ∧ Option.isSome p1.a = true) ∧
      ∃ x4 : NumV, View.has V2 (Option.map (fun q => Addr.add q (Int.toNat x2.t17 * 5)) p1.a) (x4.val).cells.toList ∧ Option.isSome (Option.map (fun q => Addr.add q (Int.toNat x2.t17 * 5)) p1.a) = true ∧
      CallV Try.prog 67 #[x3.val, x4.val] V2 fun v V3 => ∃ r2 : NumV, v = r2.val ∧ -- (num.Num).Mul
      ((0 : Int) ≤ x2.t17 ∧ (x2.t17 : Int) < (Int.toNat (p0.len : Int) : Nat)) ∧
      0 + Int.toNat x2.t17 * 5 + 5 ≤ List.length x2.o14 ∧
      ∃ x5 : L_transform_Times_num_Num__0, ((SV.val (p0.v) = SV.val (p0.v) ∧ SV.val (p1.v) = SV.val (p1.v) ∧ SV.osl 14 0 (Int.toNat (p0.len : Int)) (Int.toNat (p0.len : Int)) = SV.osl 14 0 (Int.toNat (p0.len : Int)) (Int.toNat (p0.len : Int)) ∧ SV.val (.int .i64 (p0.len : Int)) = SV.val (.int .i64 (p0.len : Int)) ∧ SV.val (.int .i64 (IntKind.i64.wrap (x2.t17 + 1))) = SV.val (.int .i64 x5.t17) ∧ True) ∧ ((some (⟨67, .dyn (setL x2.o14 (0 + Int.toNat x2.t17 * 5) [.bool r2.re.neg, r2.re.mag.v, .bool r2.im.neg, r2.im.mag.v, r2.under.v])⟩) : Option OB) = some (⟨67, .dyn x5.o14⟩) ∧ True)) ∧ I_transform_Times_num_Num__0 () x5 V3 ∧ mu_transform_Times_num_Num__0 () x5 V3 < mu_transform_Times_num_Num__0 () x2 V2) ∧
      ((decide ((x2.t17 : Int) < (p0.len : Int))) = false →
        ∀ (b1 : Nat) (V4 : View), View.le V2 V4 → V4 b1 = some (List.toArray x2.o14) →
    R (.tuple #[(Sl.mk (some (Addr.mk b1 0 none)) (Int.toNat (p0.len : Int)) (Int.toNat (p0.len : Int))).v, .int .i64 0]) V4))) from (CallV.mono h (fun _ _ _ ⟨r1, h16, h15⟩ => ⟨r1, h16, ⟨fun h14 => (h15.1 h14), fun h14 => ⟨(h15.2 h14).1, ⟨⟨(L_transform_Times_num_Num__0.mk 0 ((List.replicate (Int.toNat (p0.len : Int)) [Value.bool false, Value.slice none 0 0, Value.bool false, Value.slice none 0 0, Value.slice none 0 0]).flatten)), ⟨⟨rfl, rfl, rfl, rfl, rfl, trivial⟩, ⟨rfl, trivial⟩⟩, (h15.2 h14).2.1⟩, fun x2 V2 h12 h13 => ⟨fun h11 => ⟨(((h15.2 h14).2.2 x2 V2 h12 h13).1 h11).1, (match (((h15.2 h14).2.2 x2 V2 h12 h13).1 h11).2 with | ⟨x3, h7, h8, h6⟩ => ⟨x3, h7, h8, ⟨h6.1, (match h6.2 with | ⟨x4, h4, h5, h3⟩ => ⟨x4, h4, h5, (CallV.mono h3 (fun _ _ _ ⟨r2, h2, h1⟩ => ⟨r2, h2, ⟨h1.1, ⟨h1.2.1, ⟨(L_transform_Times_num_Num__0.mk (IntKind.i64.wrap (x2.t17 + 1)) (setL x2.o14 (0 + Int.toNat x2.t17 * 5) [.bool r2.re.neg, r2.re.mag.v, .bool r2.im.neg, r2.im.mag.v, r2.under.v])), ⟨⟨rfl, rfl, rfl, rfl, rfl, trivial⟩, ⟨rfl, trivial⟩⟩, h1.2.2.1, h1.2.2.2⟩⟩⟩⟩))⟩)⟩⟩)⟩, fun h11 => (fun b1 V4 h9 h10 => ((((h15.2 h14).2.2 x2 V2 h12 h13).2 h11) b1 V4 h9 h10))⟩⟩⟩⟩⟩))))

structure L_waveportref07_Times_0 where
  t7 : Int
  o14 : List Value
/-- waveport/waveportref07.Times -/
theorem waveportref07_Times_vc (p0 : Sl) (p1 : Sl) (V : View) (R : Value → View → Prop) (I_waveportref07_Times_0 : Unit → L_waveportref07_Times_0 → View → Prop) (mu_waveportref07_Times_0 : Unit → L_waveportref07_Times_0 → View → Nat)
  (h :
    CallV Try.prog 76 #[p0.v, p1.v] V fun v V1 => ∃ r1 : Bool, v = .bool r1 ∧ -- waveportref07.pair
    ((!r1) = true →
      R (.tuple #[(Sl.mk none 0 0).v, .int .i64 4]) V1) ∧
    ((!r1) = false →
      ((0 : Int) ≤ (p0.len : Int) ∧ ((p0.len : Int) : Int) ≤ (p0.len : Int) ∧ (88 : Int) * (p0.len : Int) ≤ 281474976710656 ∧ ((p0.len : Int) : Int) ≤ 9223372036854775807) ∧
    I_waveportref07_Times_0 () (L_waveportref07_Times_0.mk 0 ((List.replicate (Int.toNat (p0.len : Int)) [Value.bool false, Value.slice none 0 0, Value.bool false, Value.slice none 0 0, Value.slice none 0 0]).flatten)) V1 ∧
    (∀ (x2 : L_waveportref07_Times_0) (V2 : View), View.le V1 V2 → I_waveportref07_Times_0 () x2 V2 →
      ((decide ((x2.t7 : Int) < (p0.len : Int))) = true →
        ((0 : Int) ≤ x2.t7 ∧ (x2.t7 : Int) < (p0.len : Nat) ∧ Option.isSome p0.a = true) ∧
      ∃ x3 : NumV, View.has V2 (Option.map (fun q => Addr.add q (Int.toNat x2.t7 * 5)) p0.a) (x3.val).cells.toList ∧ Option.isSome (Option.map (fun q => Addr.add q (Int.toNat x2.t7 * 5)) p0.a) = true ∧
      ((0 : Int) ≤ x2.t7 ∧ (x2.t7 : Int) < (p1.len : Nat) ∧ Option.isSome p1.a = true) ∧
      ∃ x4 : NumV, View.has V2 (Option.map (fun q => Addr.add q (Int.toNat x2.t7 * 5)) p1.a) (x4.val).cells.toList ∧ Option.isSome (Option.map (fun q => Addr.add q (Int.toNat x2.t7 * 5)) p1.a) = true ∧
      CallV Try.prog 65 #[x3.val, x4.val] V2 fun v V3 => ∃ r2 : NumV, v = r2.val ∧ -- waveportref01.Mul
      ((0 : Int) ≤ x2.t7 ∧ (x2.t7 : Int) < (Int.toNat (p0.len : Int) : Nat)) ∧
      0 + Int.toNat x2.t7 * 5 + 5 ≤ List.length x2.o14 ∧
      I_waveportref07_Times_0 () (L_waveportref07_Times_0.mk (IntKind.i64.wrap (x2.t7 + 1)) (setL x2.o14 (0 + Int.toNat x2.t7 * 5) [.bool r2.re.neg, r2.re.mag.v, .bool r2.im.neg, r2.im.mag.v, r2.under.v])) V3 ∧ mu_waveportref07_Times_0 () (L_waveportref07_Times_0.mk (IntKind.i64.wrap (x2.t7 + 1)) (setL x2.o14 (0 + Int.toNat x2.t7 * 5) [.bool r2.re.neg, r2.re.mag.v, .bool r2.im.neg, r2.im.mag.v, r2.under.v])) V3 < mu_waveportref07_Times_0 () x2 V2) ∧
      ((decide ((x2.t7 : Int) < (p0.len : Int))) = false →
        ∀ (b1 : Nat) (V4 : View), View.le V2 V4 → V4 b1 = some (List.toArray x2.o14) →
    R (.tuple #[(Sl.mk (some (Addr.mk b1 0 none)) (Int.toNat (p0.len : Int)) (Int.toNat (p0.len : Int))).v, .int .i64 0]) V4)))) :
  CallV Try.prog 37 #[p0.v, p1.v] V R :=
  calls_of_vc (Shp := Shp) hmixed Try.func37 (c := Try.f37.body.getD .skip) (args := [p0.v, p1.v]) (by kernel_rfl)
    (.seq (.reg [⟨4, 2, false⟩, ⟨5, 2, false⟩]) (.seq (.seq (.reg [⟨8, 2, false⟩, ⟨9, 2, false⟩, ⟨10, 10, false⟩, ⟨11, 0, false⟩]) (.cond (.seq (.reg [⟨4, 2, false⟩, ⟨5, 2, false⟩]) .leaf) .leaf)) (.seq (.reg [⟨12, 2, false⟩, ⟨13, 0, false⟩, ⟨14, 3, false⟩, ⟨6, 2, false⟩]) (.seq (.seq (.reg [⟨7, 2, false⟩]) (.block (.loop Unit L_waveportref07_Times_0 (fun _ => ()) (fun c x => { tm := spT 34 0 [(0, .val (p0.v)), (1, .val (p1.v)), (6, .osl 14 0 (Int.toNat (p0.len : Int)) (Int.toNat (p0.len : Int))), (7, .val (.int .i64 x.t7))], own := spO 34 0 [(14, ⟨77, .dyn x.o14⟩)] }) I_waveportref07_Times_0 mu_waveportref07_Times_0 (.seq (.seq (.reg [⟨15, 2, false⟩, ⟨16, 2, false⟩, ⟨17, 0, false⟩, ⟨18, 0, false⟩]) (.cond .leaf .leaf)) (.seq (.block (.draw [(0, ⟨21, 2, false⟩), (1, ⟨22, 2, false⟩), (2, ⟨23, 2, false⟩), (3, ⟨24, 2, false⟩), (4, ⟨25, 7, false⟩), (5, ⟨26, 5, false⟩), (6, ⟨27, 2, false⟩), (7, ⟨28, 2, false⟩), (8, ⟨29, 7, false⟩), (9, ⟨30, 5, false⟩), (10, ⟨31, 10, false⟩), (11, ⟨32, 7, false⟩), (12, ⟨14, 6, false⟩)] [0, 0, 0, 0, 12, 28, 0, 0, 192, 448, 1020, 2047, 4095])) (.reg [⟨19, 2, false⟩, ⟨20, 0, false⟩, ⟨7, 2, false⟩])))))) (.seq (.reg [⟨33, 2, false⟩, ⟨4, 2, false⟩, ⟨5, 2, false⟩]) (.pub 14 .leaf))))))
    (Eq.mpr (by kernel_rfl) (show CallV Try.prog 76 #[p0.v, p1.v] V fun v V1 => ∃ r1 : Bool, v = .bool r1 ∧ -- waveportref07.pair
    ((!r1) = true →
      R (.tuple #[(Sl.mk none 0 0).v, .int .i64 4]) V1) ∧
    ((!r1) = false →
      ((0 : Int) ≤ (p0.len : Int) ∧ ((p0.len : Int) : Int) ≤ (p0.len : Int) ∧ (88 : Int) * (p0.len : Int) ≤ 281474976710656 ∧ ((p0.len : Int) : Int) ≤ 9223372036854775807) ∧
    (∃ x1 : L_waveportref07_Times_0, ((SV.val (p0.v) = SV.val (p0.v) ∧ SV.val (p1.v) = SV.val (p1.v) ∧ SV.osl 14 0 (Int.toNat (p0.len : Int)) (Int.toNat (p0.len : Int)) = SV.osl 14 0 (Int.toNat (p0.len : Int)) (Int.toNat (p0.len : Int)) ∧ SV.val (.int .i64 0) = SV.val (.int .i64 x1.t7) ∧ True) ∧ ((some (⟨77, .dyn ((List.replicate (Int.toNat (p0.len : Int)) [Value.bool false, Value.slice none 0 0, Value.bool false, Value.slice none 0 0, Value.slice none 0 0]).flatten)⟩) : Option OB) = some (⟨77, .dyn x1.o14⟩) ∧ True)) ∧ I_waveportref07_Times_0 () x1 V1) ∧
    (∀ (x2 : L_waveportref07_Times_0) (V2 : View), View.le V1 V2 → I_waveportref07_Times_0 () x2 V2 →
      ((decide ((x2.t7 : Int) < (p0.len : Int))) = true →
        ((0 : Int) ≤ x2.t7 ∧ (x2.t7 : Int) < (p0.len : Nat) ∧ Option.isSome p0.a = true) ∧
      ∃ x3 : NumV, View.has V2 (Option.map (fun q => Addr.add q (Int.toNat x2.t7 * 5)) p0.a) (x3.val).cells.toList ∧ Option.isSome (Option.map (fun q => Addr.add q (Int.toNat x2.t7 * 5)) p0.a) = true ∧
      ((0 : Int) ≤ x2.t7 ∧ (x2.t7 : Int) < (p1.len : Nat) ∧ Option.isSome p1.a = true) ∧
      ∃ x4 : NumV, View.has V2 (Option.map (fun q => Addr.add q (Int.toNat x2.t7 * 5)) p1.a) (x4.val).cells.toList ∧ Option.isSome (Option.map (fun q => Addr.add q (Int.toNat x2.t7 * 5)) p1.a) = true ∧
      CallV Try.prog 65 #[x3.val, x4.val] V2 fun v V3 => ∃ r2 : NumV, v = r2.val ∧ -- waveportref01.Mul
      ((0 : Int) ≤ x2.t7 ∧ (x2.t7 : Int) < (Int.toNat (p0.len : Int) : Nat)) ∧
      0 + Int.toNat x2.t7 * 5 + 5 ≤ List.length x2.o14 ∧
      ∃ x5 : L_waveportref07_Times_0, ((SV.val (p0.v) = SV.val (p0.v) ∧ SV.val (p1.v) = SV.val (p1.v) ∧ SV.osl 14 0 (Int.toNat (p0.len : Int)) (Int.toNat (p0.len : Int)) = SV.osl 14 0 (Int.toNat (p0.len : Int)) (Int.toNat (p0.len : Int)) ∧ SV.val (.int .i64 (IntKind.i64.wrap (x2.t7 + 1))) = SV.val (.int .i64 x5.t7) ∧ True) ∧ ((some (⟨77, .dyn (setL x2.o14 (0 + Int.toNat x2.t7 * 5) [.bool r2.re.neg, r2.re.mag.v, .bool r2.im.neg, r2.im.mag.v, r2.under.v])⟩) : Option OB) = some (⟨77, .dyn x5.o14⟩) ∧ True)) ∧ I_waveportref07_Times_0 () x5 V3 ∧ mu_waveportref07_Times_0 () x5 V3 < mu_waveportref07_Times_0 () x2 V2) ∧
      ((decide ((x2.t7 : Int) < (p0.len : Int))) = false →
        ∀ (b1 : Nat) (V4 : View), View.le V2 V4 → V4 b1 = some (List.toArray x2.o14) →
    R (.tuple #[(Sl.mk (some (Addr.mk b1 0 none)) (Int.toNat (p0.len : Int)) (Int.toNat (p0.len : Int))).v, .int .i64 0]) V4))) from (CallV.mono h (fun _ _ _ ⟨r1, h16, h15⟩ => ⟨r1, h16, ⟨fun h14 => (h15.1 h14), fun h14 => ⟨(h15.2 h14).1, ⟨⟨(L_waveportref07_Times_0.mk 0 ((List.replicate (Int.toNat (p0.len : Int)) [Value.bool false, Value.slice none 0 0, Value.bool false, Value.slice none 0 0, Value.slice none 0 0]).flatten)), ⟨⟨rfl, rfl, rfl, rfl, trivial⟩, ⟨rfl, trivial⟩⟩, (h15.2 h14).2.1⟩, fun x2 V2 h12 h13 => ⟨fun h11 => ⟨(((h15.2 h14).2.2 x2 V2 h12 h13).1 h11).1, (match (((h15.2 h14).2.2 x2 V2 h12 h13).1 h11).2 with | ⟨x3, h7, h8, h6⟩ => ⟨x3, h7, h8, ⟨h6.1, (match h6.2 with | ⟨x4, h4, h5, h3⟩ => ⟨x4, h4, h5, (CallV.mono h3 (fun _ _ _ ⟨r2, h2, h1⟩ => ⟨r2, h2, ⟨h1.1, ⟨h1.2.1, ⟨(L_waveportref07_Times_0.mk (IntKind.i64.wrap (x2.t7 + 1)) (setL x2.o14 (0 + Int.toNat x2.t7 * 5) [.bool r2.re.neg, r2.re.mag.v, .bool r2.im.neg, r2.im.mag.v, r2.under.v])), ⟨⟨rfl, rfl, rfl, rfl, trivial⟩, ⟨rfl, trivial⟩⟩, h1.2.2.1, h1.2.2.2⟩⟩⟩⟩))⟩)⟩⟩)⟩, fun h11 => (fun b1 V4 h9 h10 => ((((h15.2 h14).2.2 x2 V2 h12 h13).2 h11) b1 V4 h9 h10))⟩⟩⟩⟩⟩))))

structure L_transform_Weigh_num_Num__0 where
  t17 : Int
  o14 : List Value
/-- waveport/transform.Weigh[waveport/num.Num] -/
theorem transform_Weigh_num_Num__vc (p0 : Sl) (p1 : Sl) (V : View) (R : Value → View → Prop) (I_transform_Weigh_num_Num__0 : Unit → L_transform_Weigh_num_Num__0 → View → Prop) (mu_transform_Weigh_num_Num__0 : Unit → L_transform_Weigh_num_Num__0 → View → Nat)
  (h :
    CallV Try.prog 82 #[p0.v, p1.v] V fun v V1 => ∃ r1 : Bool, v = .bool r1 ∧ -- transform.listed[num.Num,num.Num]
    ((!r1) = true →
      R (.tuple #[(Sl.mk none 0 0).v, .int .i64 4]) V1) ∧
    ((!r1) = false →
      ((0 : Int) ≤ (p0.len : Int) ∧ ((p0.len : Int) : Int) ≤ (p0.len : Int) ∧ (88 : Int) * (p0.len : Int) ≤ 281474976710656 ∧ ((p0.len : Int) : Int) ≤ 9223372036854775807) ∧
    I_transform_Weigh_num_Num__0 () (L_transform_Weigh_num_Num__0.mk 0 ((List.replicate (Int.toNat (p0.len : Int)) [Value.bool false, Value.slice none 0 0, Value.bool false, Value.slice none 0 0, Value.slice none 0 0]).flatten)) V1 ∧
    (∀ (x2 : L_transform_Weigh_num_Num__0) (V2 : View), View.le V1 V2 → I_transform_Weigh_num_Num__0 () x2 V2 →
      ((decide ((x2.t17 : Int) < (p0.len : Int))) = true →
        ((0 : Int) ≤ x2.t17 ∧ (x2.t17 : Int) < (p0.len : Nat) ∧ Option.isSome p0.a = true) ∧
      ∃ x3 : NumV, View.has V2 (Option.map (fun q => Addr.add q (Int.toNat x2.t17 * 5)) p0.a) (x3.val).cells.toList ∧ Option.isSome (Option.map (fun q => Addr.add q (Int.toNat x2.t17 * 5)) p0.a) = true ∧
      ((0 : Int) ≤ x2.t17 ∧ (x2.t17 : Int) < (p0.len : Nat) ∧ Option.isSome p0.a = true) ∧
      ∃ x4 : NumV, View.has V2 (Option.map (fun q => Addr.add q (Int.toNat x2.t17 * 5)) p0.a) (x4.val).cells.toList ∧ Option.isSome (Option.map (fun q => Addr.add q (Int.toNat x2.t17 * 5)) p0.a) = true ∧
      ((0 : Int) ≤ x2.t17 ∧ (x2.t17 : Int) < (p1.len : Nat) ∧ Option.isSome p1.a = true) ∧
      ∃ x5 : NumV, View.has V2 (Option.map (fun q => Addr.add q (Int.toNat x2.t17 * 5)) p1.a) (x5.val).cells.toList ∧ Option.isSome (Option.map (fun q => Addr.add q (Int.toNat x2.t17 * 5)) p1.a) = true ∧
      CallV Try.prog 232 #[x4.val, x5.val] V2 fun v V3 => ∃ r2 : NumV, v = r2.val ∧ -- (num.Num).Of
      CallV Try.prog 67 #[x3.val, r2.val] V3 fun v V4 => ∃ r3 : NumV, v = r3.val ∧ -- (num.Num).Mul
      ((0 : Int) ≤ x2.t17 ∧ (x2.t17 : Int) < (Int.toNat (p0.len : Int) : Nat)) ∧
      0 + Int.toNat x2.t17 * 5 + 5 ≤ List.length x2.o14 ∧
      I_transform_Weigh_num_Num__0 () (L_transform_Weigh_num_Num__0.mk (IntKind.i64.wrap (x2.t17 + 1)) (setL x2.o14 (0 + Int.toNat x2.t17 * 5) [.bool r3.re.neg, r3.re.mag.v, .bool r3.im.neg, r3.im.mag.v, r3.under.v])) V4 ∧ mu_transform_Weigh_num_Num__0 () (L_transform_Weigh_num_Num__0.mk (IntKind.i64.wrap (x2.t17 + 1)) (setL x2.o14 (0 + Int.toNat x2.t17 * 5) [.bool r3.re.neg, r3.re.mag.v, .bool r3.im.neg, r3.im.mag.v, r3.under.v])) V4 < mu_transform_Weigh_num_Num__0 () x2 V2) ∧
      ((decide ((x2.t17 : Int) < (p0.len : Int))) = false →
        ∀ (b1 : Nat) (V5 : View), View.le V2 V5 → V5 b1 = some (List.toArray x2.o14) →
    R (.tuple #[(Sl.mk (some (Addr.mk b1 0 none)) (Int.toNat (p0.len : Int)) (Int.toNat (p0.len : Int))).v, .int .i64 0]) V5)))) :
  CallV Try.prog 38 #[p0.v, p1.v] V R :=
  calls_of_vc (Shp := Shp) hmixed Try.func38 (c := Try.f38.body.getD .skip) (args := [p0.v, p1.v]) (by kernel_rfl)
    (.seq (.reg [⟨4, 2, false⟩, ⟨5, 2, false⟩]) (.seq (.seq (.reg [⟨8, 2, false⟩, ⟨9, 2, false⟩, ⟨10, 10, false⟩, ⟨11, 0, false⟩]) (.cond (.seq (.reg [⟨4, 2, false⟩, ⟨5, 2, false⟩]) .leaf) .leaf)) (.seq (.reg [⟨12, 2, false⟩, ⟨13, 0, false⟩, ⟨14, 3, false⟩, ⟨6, 2, false⟩]) (.seq (.seq (.reg [⟨15, 2, false⟩, ⟨16, 0, false⟩, ⟨17, 2, false⟩]) (.block (.loop Unit L_transform_Weigh_num_Num__0 (fun _ => ()) (fun c x => { tm := spT 41 0 [(0, .val (p0.v)), (1, .val (p1.v)), (6, .osl 14 0 (Int.toNat (p0.len : Int)) (Int.toNat (p0.len : Int))), (16, .val (.int .i64 (p0.len : Int))), (17, .val (.int .i64 x.t17))], own := spO 41 0 [(14, ⟨67, .dyn x.o14⟩)] }) I_transform_Weigh_num_Num__0 mu_transform_Weigh_num_Num__0 (.seq (.reg [⟨18, 0, false⟩]) (.seq (.cond .leaf .leaf) (.seq (.block (.seq (.reg [⟨19, 2, false⟩, ⟨7, 2, false⟩]) (.draw [(0, ⟨20, 2, false⟩), (1, ⟨21, 2, false⟩), (2, ⟨22, 2, false⟩), (3, ⟨23, 2, false⟩), (4, ⟨24, 7, false⟩), (5, ⟨25, 5, false⟩), (6, ⟨26, 0, false⟩), (7, ⟨27, 2, false⟩), (8, ⟨28, 2, false⟩), (9, ⟨29, 7, false⟩), (10, ⟨30, 5, false⟩), (11, ⟨31, 0, false⟩), (12, ⟨32, 2, false⟩), (13, ⟨33, 2, false⟩), (14, ⟨34, 7, false⟩), (15, ⟨35, 5, false⟩), (16, ⟨36, 10, false⟩), (17, ⟨37, 10, false⟩), (18, ⟨38, 7, false⟩), (19, ⟨14, 6, false⟩)] [0, 0, 0, 0, 12, 28, 60, 0, 0, 384, 896, 1920, 0, 0, 12288, 28672, 65408, 131068, 262143, 524287]))) (.reg [⟨39, 0, false⟩, ⟨17, 2, false⟩]))))))) (.seq (.reg [⟨40, 2, false⟩, ⟨4, 2, false⟩, ⟨5, 2, false⟩]) (.pub 14 .leaf))))))
    (Eq.mpr (by kernel_rfl) (show CallV Try.prog 82 #[p0.v, p1.v] V fun v V1 => ∃ r1 : Bool, v = .bool r1 ∧ -- transform.listed[num.Num,num.Num]
    ((!r1) = true →
      R (.tuple #[(Sl.mk none 0 0).v, .int .i64 4]) V1) ∧
    ((!r1) = false →
      ((0 : Int) ≤ (p0.len : Int) ∧ ((p0.len : Int) : Int) ≤ (p0.len : Int) ∧ (88 : Int) * (p0.len : Int) ≤ 281474976710656 ∧ ((p0.len : Int) : Int) ≤ 9223372036854775807) ∧
    (∃ x1 : L_transform_Weigh_num_Num__0, ((SV.val (p0.v) = SV.val (p0.v) ∧ SV.val (p1.v) = SV.val (p1.v) ∧ SV.osl 14 0 (Int.toNat (p0.len : Int)) (Int.toNat (p0.len : Int)) = SV.osl 14 0 (Int.toNat (p0.len : Int)) (Int.toNat (p0.len : Int)) ∧ SV.val (.int .i64 (p0.len : Int)) = SV.val (.int .i64 (p0.len : Int)) ∧ SV.val (.int .i64 0) = SV.val (.int .i64 x1.t17) ∧ True) ∧ ((some (⟨67, .dyn ((List.replicate (Int.toNat (p0.len : Int)) [Value.bool false, Value.slice none 0 0, Value.bool false, Value.slice none 0 0, Value.slice none 0 0]).flatten)⟩) : Option OB) = some (⟨67, .dyn x1.o14⟩) ∧ True)) ∧ I_transform_Weigh_num_Num__0 () x1 V1) ∧
    (∀ (x2 : L_transform_Weigh_num_Num__0) (V2 : View), View.le V1 V2 → I_transform_Weigh_num_Num__0 () x2 V2 →
      ((decide ((x2.t17 : Int) < (p0.len : Int))) = true →
        ((0 : Int) ≤ x2.t17 ∧ (x2.t17 : Int) < (p0.len : Nat) ∧ Option.isSome p0.a = true) ∧
      ∃ x3 : NumV, View.has V2 (Option.map (fun q => Addr.add q (Int.toNat x2.t17 * 5)) p0.a) (x3.val).cells.toList ∧ Option.isSome (Option.map (fun q => Addr.add q (Int.toNat x2.t17 * 5)) p0.a) = true ∧
      ((0 : Int) ≤ x2.t17 ∧ (x2.t17 : Int) < (p0.len : Nat) ∧ Option.isSome p0.a = true) ∧
      ∃ x4 : NumV, View.has V2 (Option.map (fun q => Addr.add q (Int.toNat x2.t17 * 5)) p0.a) (x4.val).cells.toList ∧ Option.isSome (Option.map (fun q => Addr.add q (Int.toNat x2.t17 * 5)) p0.a) = true ∧
      ((0 : Int) ≤ x2.t17 ∧ (x2.t17 : Int) < (p1.len : Nat) ∧ Option.isSome p1.a = true) ∧
      ∃ x5 : NumV, View.has V2 (Option.map (fun q => Addr.add q (Int.toNat x2.t17 * 5)) p1.a) (x5.val).cells.toList ∧ Option.isSome (Option.map (fun q => Addr.add q (Int.toNat x2.t17 * 5)) p1.a) = true ∧
      CallV Try.prog 232 #[x4.val, x5.val] V2 fun v V3 => ∃ r2 : NumV, v = r2.val ∧ -- (num.Num).Of
      CallV Try.prog 67 #[x3.val, r2.val] V3 fun v V4 => ∃ r3 : NumV, v = r3.val ∧ -- (num.Num).Mul
      ((0 : Int) ≤ x2.t17 ∧ (x2.t17 : Int) < (Int.toNat (p0.len : Int) : Nat)) ∧
      0 + Int.toNat x2.t17 * 5 + 5 ≤ List.length x2.o14 ∧
      ∃ x6 : L_transform_Weigh_num_Num__0, ((SV.val (p0.v) = SV.val (p0.v) ∧ SV.val (p1.v) = SV.val (p1.v) ∧ SV.osl 14 0 (Int.toNat (p0.len : Int)) (Int.toNat (p0.len : Int)) = SV.osl 14 0 (Int.toNat (p0.len : Int)) (Int.toNat (p0.len : Int)) ∧ SV.val (.int .i64 (p0.len : Int)) = SV.val (.int .i64 (p0.len : Int)) ∧ SV.val (.int .i64 (IntKind.i64.wrap (x2.t17 + 1))) = SV.val (.int .i64 x6.t17) ∧ True) ∧ ((some (⟨67, .dyn (setL x2.o14 (0 + Int.toNat x2.t17 * 5) [.bool r3.re.neg, r3.re.mag.v, .bool r3.im.neg, r3.im.mag.v, r3.under.v])⟩) : Option OB) = some (⟨67, .dyn x6.o14⟩) ∧ True)) ∧ I_transform_Weigh_num_Num__0 () x6 V4 ∧ mu_transform_Weigh_num_Num__0 () x6 V4 < mu_transform_Weigh_num_Num__0 () x2 V2) ∧
      ((decide ((x2.t17 : Int) < (p0.len : Int))) = false →
        ∀ (b1 : Nat) (V5 : View), View.le V2 V5 → V5 b1 = some (List.toArray x2.o14) →
    R (.tuple #[(Sl.mk (some (Addr.mk b1 0 none)) (Int.toNat (p0.len : Int)) (Int.toNat (p0.len : Int))).v, .int .i64 0]) V5))) from (CallV.mono h (fun _ _ _ ⟨r1, h21, h20⟩ => ⟨r1, h21, ⟨fun h19 => (h20.1 h19), fun h19 => ⟨(h20.2 h19).1, ⟨⟨(L_transform_Weigh_num_Num__0.mk 0 ((List.replicate (Int.toNat (p0.len : Int)) [Value.bool false, Value.slice none 0 0, Value.bool false, Value.slice none 0 0, Value.slice none 0 0]).flatten)), ⟨⟨rfl, rfl, rfl, rfl, rfl, trivial⟩, ⟨rfl, trivial⟩⟩, (h20.2 h19).2.1⟩, fun x2 V2 h17 h18 => ⟨fun h16 => ⟨(((h20.2 h19).2.2 x2 V2 h17 h18).1 h16).1, (match (((h20.2 h19).2.2 x2 V2 h17 h18).1 h16).2 with | ⟨x3, h12, h13, h11⟩ => ⟨x3, h12, h13, ⟨h11.1, (match h11.2 with | ⟨x4, h9, h10, h8⟩ => ⟨x4, h9, h10, ⟨h8.1, (match h8.2 with | ⟨x5, h6, h7, h5⟩ => ⟨x5, h6, h7, (CallV.mono h5 (fun _ _ _ ⟨r2, h4, h3⟩ => ⟨r2, h4, (CallV.mono h3 (fun _ _ _ ⟨r3, h2, h1⟩ => ⟨r3, h2, ⟨h1.1, ⟨h1.2.1, ⟨(L_transform_Weigh_num_Num__0.mk (IntKind.i64.wrap (x2.t17 + 1)) (setL x2.o14 (0 + Int.toNat x2.t17 * 5) [.bool r3.re.neg, r3.re.mag.v, .bool r3.im.neg, r3.im.mag.v, r3.under.v])), ⟨⟨rfl, rfl, rfl, rfl, rfl, trivial⟩, ⟨rfl, trivial⟩⟩, h1.2.2.1, h1.2.2.2⟩⟩⟩⟩))⟩))⟩)⟩⟩)⟩⟩)⟩, fun h16 => (fun b1 V5 h14 h15 => ((((h20.2 h19).2.2 x2 V2 h17 h18).2 h16) b1 V5 h14 h15))⟩⟩⟩⟩⟩))))

structure L_transform_Convolve_num_Num__0 where
  t21 : Int
  o18 : List Value
structure L_transform_Convolve_num_Num__1 where
  t10 : Int
  o9 : NumV
  o18 : List Value
structure C_transform_Convolve_num_Num__1 where
  t8 : Int
  t21 : Int
/-- waveport/transform.Convolve[waveport/num.Num] -/
theorem transform_Convolve_num_Num__vc (p0 : Sl) (p1 : Sl) (V : View) (R : Value → View → Prop) (I_transform_Convolve_num_Num__0 : Unit → L_transform_Convolve_num_Num__0 → View → Prop) (mu_transform_Convolve_num_Num__0 : Unit → L_transform_Convolve_num_Num__0 → View → Nat) (I_transform_Convolve_num_Num__1 : C_transform_Convolve_num_Num__1 → L_transform_Convolve_num_Num__1 → View → Prop) (mu_transform_Convolve_num_Num__1 : C_transform_Convolve_num_Num__1 → L_transform_Convolve_num_Num__1 → View → Nat)
  (h :
    CallV Try.prog 82 #[p0.v, p1.v] V fun v V1 => ∃ r1 : Bool, v = .bool r1 ∧ -- transform.listed[num.Num,num.Num]
    ((!r1) = true →
      R (.tuple #[(Sl.mk none 0 0).v, .int .i64 4]) V1) ∧
    ((!r1) = false →
      ((0 : Int) ≤ (p0.len : Int) ∧ ((p0.len : Int) : Int) ≤ (p0.len : Int) ∧ (88 : Int) * (p0.len : Int) ≤ 281474976710656 ∧ ((p0.len : Int) : Int) ≤ 9223372036854775807) ∧
    I_transform_Convolve_num_Num__0 () (L_transform_Convolve_num_Num__0.mk 0 ((List.replicate (Int.toNat (p0.len : Int)) [Value.bool false, Value.slice none 0 0, Value.bool false, Value.slice none 0 0, Value.slice none 0 0]).flatten)) V1 ∧
    (∀ (x2 : L_transform_Convolve_num_Num__0) (V2 : View), View.le V1 V2 → I_transform_Convolve_num_Num__0 () x2 V2 →
      ((decide ((x2.t21 : Int) < ((Int.toNat (p0.len : Int) : Nat) : Int))) = true →
        ((0 : Int) ≤ 0 ∧ (0 : Int) < (p0.len : Nat) ∧ Option.isSome p0.a = true) ∧
      ∃ x3 : NumV, View.has V2 (Option.map (fun q => Addr.add q (Int.toNat 0 * 5)) p0.a) (x3.val).cells.toList ∧ Option.isSome (Option.map (fun q => Addr.add q (Int.toNat 0 * 5)) p0.a) = true ∧
      ((0 : Int) ≤ x2.t21 ∧ (x2.t21 : Int) < (p1.len : Nat) ∧ Option.isSome p1.a = true) ∧
      ∃ x4 : NumV, View.has V2 (Option.map (fun q => Addr.add q (Int.toNat x2.t21 * 5)) p1.a) (x4.val).cells.toList ∧ Option.isSome (Option.map (fun q => Addr.add q (Int.toNat x2.t21 * 5)) p1.a) = true ∧
      CallV Try.prog 67 #[x3.val, x4.val] V2 fun v V3 => ∃ r2 : NumV, v = r2.val ∧ -- (num.Num).Mul
      I_transform_Convolve_num_Num__1 (C_transform_Convolve_num_Num__1.mk x2.t21 x2.t21) (L_transform_Convolve_num_Num__1.mk 1 r2 x2.o18) V3 ∧
      (∀ (x6 : L_transform_Convolve_num_Num__1) (V4 : View), View.le V3 V4 → I_transform_Convolve_num_Num__1 (C_transform_Convolve_num_Num__1.mk x2.t21 x2.t21) x6 V4 →
        ((decide ((x6.t10 : Int) < (p0.len : Int))) = true →
          ((0 : Int) ≤ x6.t10 ∧ (x6.t10 : Int) < (p0.len : Nat) ∧ Option.isSome p0.a = true) ∧
        ∃ x7 : NumV, View.has V4 (Option.map (fun q => Addr.add q (Int.toNat x6.t10 * 5)) p0.a) (x7.val).cells.toList ∧ Option.isSome (Option.map (fun q => Addr.add q (Int.toNat x6.t10 * 5)) p0.a) = true ∧
        ((p0.len : Int) : Int) ≠ 0 ∧
        ((0 : Int) ≤ (Int.tmod (IntKind.i64.wrap ((IntKind.i64.wrap (x2.t21 - x6.t10)) + (p0.len : Int))) (p0.len : Int)) ∧ ((Int.tmod (IntKind.i64.wrap ((IntKind.i64.wrap (x2.t21 - x6.t10)) + (p0.len : Int))) (p0.len : Int)) : Int) < (p1.len : Nat) ∧ Option.isSome p1.a = true) ∧
        ∃ x8 : NumV, View.has V4 (Option.map (fun q => Addr.add q (Int.toNat (Int.tmod (IntKind.i64.wrap ((IntKind.i64.wrap (x2.t21 - x6.t10)) + (p0.len : Int))) (p0.len : Int)) * 5)) p1.a) (x8.val).cells.toList ∧ Option.isSome (Option.map (fun q => Addr.add q (Int.toNat (Int.tmod (IntKind.i64.wrap ((IntKind.i64.wrap (x2.t21 - x6.t10)) + (p0.len : Int))) (p0.len : Int)) * 5)) p1.a) = true ∧
        CallV Try.prog 67 #[x7.val, x8.val] V4 fun v V5 => ∃ r3 : NumV, v = r3.val ∧ -- (num.Num).Mul
        CallV Try.prog 102 #[x6.o9.val, r3.val] V5 fun v V6 => ∃ r4 : NumV, v = r4.val ∧ -- (num.Num).Add
        I_transform_Convolve_num_Num__1 (C_transform_Convolve_num_Num__1.mk x2.t21 x2.t21) (L_transform_Convolve_num_Num__1.mk (IntKind.i64.wrap (x6.t10 + 1)) r4 x6.o18) V6 ∧ mu_transform_Convolve_num_Num__1 (C_transform_Convolve_num_Num__1.mk x2.t21 x2.t21) (L_transform_Convolve_num_Num__1.mk (IntKind.i64.wrap (x6.t10 + 1)) r4 x6.o18) V6 < mu_transform_Convolve_num_Num__1 (C_transform_Convolve_num_Num__1.mk x2.t21 x2.t21) x6 V4) ∧
        ((decide ((x6.t10 : Int) < (p0.len : Int))) = false →
          ((0 : Int) ≤ x2.t21 ∧ (x2.t21 : Int) < (Int.toNat (p0.len : Int) : Nat)) ∧
      0 + Int.toNat x2.t21 * 5 + 5 ≤ List.length x6.o18 ∧
      I_transform_Convolve_num_Num__0 () (L_transform_Convolve_num_Num__0.mk (IntKind.i64.wrap (x2.t21 + 1)) (setL x6.o18 (0 + Int.toNat x2.t21 * 5) [.bool x6.o9.re.neg, x6.o9.re.mag.v, .bool x6.o9.im.neg, x6.o9.im.mag.v, x6.o9.under.v])) V4 ∧ mu_transform_Convolve_num_Num__0 () (L_transform_Convolve_num_Num__0.mk (IntKind.i64.wrap (x2.t21 + 1)) (setL x6.o18 (0 + Int.toNat x2.t21 * 5) [.bool x6.o9.re.neg, x6.o9.re.mag.v, .bool x6.o9.im.neg, x6.o9.im.mag.v, x6.o9.under.v])) V4 < mu_transform_Convolve_num_Num__0 () x2 V2))) ∧
      ((decide ((x2.t21 : Int) < ((Int.toNat (p0.len : Int) : Nat) : Int))) = false →
        ∀ (b1 : Nat) (V7 : View), View.le V2 V7 → V7 b1 = some (List.toArray x2.o18) →
    R (.tuple #[(Sl.mk (some (Addr.mk b1 0 none)) (Int.toNat (p0.len : Int)) (Int.toNat (p0.len : Int))).v, .int .i64 0]) V7)))) :
  CallV Try.prog 39 #[p0.v, p1.v] V R :=
  calls_of_vc (Shp := Shp) hmixed Try.func39 (c := Try.f39.body.getD .skip) (args := [p0.v, p1.v]) (by kernel_rfl)
    (.seq (.reg [⟨4, 2, false⟩, ⟨5, 2, false⟩]) (.seq (.seq (.reg [⟨11, 2, false⟩, ⟨12, 2, false⟩, ⟨13, 10, false⟩, ⟨14, 0, false⟩]) (.cond (.seq (.reg [⟨4, 2, false⟩, ⟨5, 2, false⟩]) .leaf) .leaf)) (.seq (.reg [⟨15, 2, false⟩, ⟨16, 0, false⟩, ⟨6, 2, false⟩]) (.seq (.reg [⟨17, 2, false⟩, ⟨18, 3, false⟩, ⟨7, 2, false⟩]) (.seq (.seq (.reg [⟨19, 2, false⟩, ⟨20, 7, false⟩, ⟨21, 2, false⟩]) (.block (.loop Unit L_transform_Convolve_num_Num__0 (fun _ => ()) (fun c x => { tm := spT 63 0 [(0, .val (p0.v)), (1, .val (p1.v)), (6, .val (.int .i64 (p0.len : Int))), (7, .osl 18 0 (Int.toNat (p0.len : Int)) (Int.toNat (p0.len : Int))), (20, .val (.int .i64 ((Int.toNat (p0.len : Int) : Nat) : Int))), (21, .val (.int .i64 x.t21))], own := spO 63 0 [(18, ⟨67, .dyn x.o18⟩)] }) I_transform_Convolve_num_Num__0 mu_transform_Convolve_num_Num__0 (.seq (.reg [⟨22, 0, false⟩]) (.seq (.cond .leaf .leaf) (.seq (.block (.seq (.reg [⟨23, 2, false⟩, ⟨8, 2, false⟩]) (.seq (.draw [(0, ⟨24, 2, false⟩), (1, ⟨25, 7, false⟩), (2, ⟨26, 5, false⟩), (3, ⟨27, 0, false⟩), (4, ⟨28, 2, false⟩), (5, ⟨29, 2, false⟩), (6, ⟨30, 7, false⟩), (7, ⟨31, 5, false⟩), (9, ⟨9, 3, false⟩), (8, ⟨32, 10, false⟩), (10, ⟨9, 6, false⟩)] [0, 1, 3, 7, 0, 0, 48, 112, 255, 0, 1023]) (.seq (.seq (.reg [⟨10, 2, false⟩]) (.block (.loop C_transform_Convolve_num_Num__1 L_transform_Convolve_num_Num__1 (fun σ => C_transform_Convolve_num_Num__1.mk (gInt (gTm σ 8)) (gInt (gTm σ 21))) (fun c x => { tm := spT 63 0 [(0, .val (p0.v)), (1, .val (p1.v)), (6, .val (.int .i64 (p0.len : Int))), (7, .osl 18 0 (Int.toNat (p0.len : Int)) (Int.toNat (p0.len : Int))), (8, .val (.int .i64 c.t8)), (9, .own 9 0), (10, .val (.int .i64 x.t10)), (20, .val (.int .i64 ((Int.toNat (p0.len : Int) : Nat) : Int))), (21, .val (.int .i64 c.t21))], own := spO 63 0 [(9, ⟨67, .fixed [.val (.bool x.o9.re.neg), .val (x.o9.re.mag.v), .val (.bool x.o9.im.neg), .val (x.o9.im.mag.v), .val (x.o9.under.v)]⟩), (18, ⟨67, .dyn x.o18⟩)] }) I_transform_Convolve_num_Num__1 mu_transform_Convolve_num_Num__1 (.seq (.seq (.reg [⟨33, 2, false⟩, ⟨34, 2, false⟩, ⟨35, 0, false⟩]) (.cond .leaf .leaf)) (.seq (.block (.draw [(0, ⟨9, 4, false⟩), (1, ⟨39, 0, false⟩), (2, ⟨40, 2, false⟩), (3, ⟨41, 2, false⟩), (4, ⟨42, 7, false⟩), (5, ⟨43, 5, false⟩), (6, ⟨44, 0, false⟩), (7, ⟨45, 2, false⟩), (8, ⟨46, 2, false⟩), (9, ⟨47, 2, false⟩), (10, ⟨48, 0, false⟩), (11, ⟨49, 2, false⟩), (12, ⟨50, 0, false⟩), (13, ⟨51, 2, false⟩), (14, ⟨52, 12, false⟩), (15, ⟨53, 7, false⟩), (16, ⟨54, 5, false⟩), (17, ⟨55, 10, false⟩), (18, ⟨56, 10, false⟩), (19, ⟨9, 6, false⟩)] [0, 1, 0, 0, 12, 28, 60, 0, 0, 0, 768, 0, 3840, 0, 16128, 32640, 65408, 131068, 262143, 524287])) (.reg [⟨36, 2, false⟩, ⟨37, 0, false⟩, ⟨10, 2, false⟩])))))) (.reg [⟨57, 2, false⟩, ⟨58, 2, false⟩, ⟨9, 4, false⟩, ⟨60, 7, false⟩, ⟨18, 6, false⟩]))))) (.reg [⟨61, 0, false⟩, ⟨21, 2, false⟩]))))))) (.seq (.reg [⟨62, 2, false⟩, ⟨4, 2, false⟩, ⟨5, 2, false⟩]) (.pub 18 .leaf)))))))
    (Eq.mpr (by kernel_rfl) (show CallV Try.prog 82 #[p0.v, p1.v] V fun v V1 => ∃ r1 : Bool, v = .bool r1 ∧ -- transform.listed[num.Num,num.Num]
    ((!r1) = true →
      R (.tuple #[(Sl.mk none 0 0).v, .int .i64 4]) V1) ∧
    ((!r1) = false →
      ((0 : Int) ≤ (p0.len : Int) ∧ ((p0.len : Int) : Int) ≤ (p0.len : Int) ∧ (88 : Int) * (p0.len : Int) ≤ 281474976710656 ∧ ((p0.len : Int) : Int) ≤ 9223372036854775807) ∧
    (∃ x1 : L_transform_Convolve_num_Num__0, ((SV.val (p0.v) = SV.val (p0.v) ∧ SV.val (p1.v) = SV.val (p1.v) ∧ SV.val (.int .i64 (p0.len : Int)) = SV.val (.int .i64 (p0.len : Int)) ∧ SV.osl 18 0 (Int.toNat (p0.len : Int)) (Int.toNat (p0.len : Int)) = SV.osl 18 0 (Int.toNat (p0.len : Int)) (Int.toNat (p0.len : Int)) ∧ SV.val (.int .i64 ((Int.toNat (p0.len : Int) : Nat) : Int)) = SV.val (.int .i64 ((Int.toNat (p0.len : Int) : Nat) : Int)) ∧ SV.val (.int .i64 0) = SV.val (.int .i64 x1.t21) ∧ True) ∧ ((some (⟨67, .dyn ((List.replicate (Int.toNat (p0.len : Int)) [Value.bool false, Value.slice none 0 0, Value.bool false, Value.slice none 0 0, Value.slice none 0 0]).flatten)⟩) : Option OB) = some (⟨67, .dyn x1.o18⟩) ∧ True)) ∧ I_transform_Convolve_num_Num__0 () x1 V1) ∧
    (∀ (x2 : L_transform_Convolve_num_Num__0) (V2 : View), View.le V1 V2 → I_transform_Convolve_num_Num__0 () x2 V2 →
      ((decide ((x2.t21 : Int) < ((Int.toNat (p0.len : Int) : Nat) : Int))) = true →
        ((0 : Int) ≤ 0 ∧ (0 : Int) < (p0.len : Nat) ∧ Option.isSome p0.a = true) ∧
      ∃ x3 : NumV, View.has V2 (Option.map (fun q => Addr.add q (Int.toNat 0 * 5)) p0.a) (x3.val).cells.toList ∧ Option.isSome (Option.map (fun q => Addr.add q (Int.toNat 0 * 5)) p0.a) = true ∧
      ((0 : Int) ≤ x2.t21 ∧ (x2.t21 : Int) < (p1.len : Nat) ∧ Option.isSome p1.a = true) ∧
      ∃ x4 : NumV, View.has V2 (Option.map (fun q => Addr.add q (Int.toNat x2.t21 * 5)) p1.a) (x4.val).cells.toList ∧ Option.isSome (Option.map (fun q => Addr.add q (Int.toNat x2.t21 * 5)) p1.a) = true ∧
      CallV Try.prog 67 #[x3.val, x4.val] V2 fun v V3 => ∃ r2 : NumV, v = r2.val ∧ -- (num.Num).Mul
      (∃ x5 : L_transform_Convolve_num_Num__1, ((SV.val (p0.v) = SV.val (p0.v) ∧ SV.val (p1.v) = SV.val (p1.v) ∧ SV.val (.int .i64 (p0.len : Int)) = SV.val (.int .i64 (p0.len : Int)) ∧ SV.osl 18 0 (Int.toNat (p0.len : Int)) (Int.toNat (p0.len : Int)) = SV.osl 18 0 (Int.toNat (p0.len : Int)) (Int.toNat (p0.len : Int)) ∧ SV.val (.int .i64 x2.t21) = SV.val (.int .i64 x2.t21) ∧ SV.own 9 0 = SV.own 9 0 ∧ SV.val (.int .i64 1) = SV.val (.int .i64 x5.t10) ∧ SV.val (.int .i64 ((Int.toNat (p0.len : Int) : Nat) : Int)) = SV.val (.int .i64 ((Int.toNat (p0.len : Int) : Nat) : Int)) ∧ SV.val (.int .i64 x2.t21) = SV.val (.int .i64 x2.t21) ∧ True) ∧ ((some (⟨67, .fixed [.val (.bool r2.re.neg), .val (r2.re.mag.v), .val (.bool r2.im.neg), .val (r2.im.mag.v), .val (r2.under.v)]⟩) : Option OB) = some (⟨67, .fixed [.val (.bool x5.o9.re.neg), .val (x5.o9.re.mag.v), .val (.bool x5.o9.im.neg), .val (x5.o9.im.mag.v), .val (x5.o9.under.v)]⟩) ∧ (some (⟨67, .dyn x2.o18⟩) : Option OB) = some (⟨67, .dyn x5.o18⟩) ∧ True)) ∧ I_transform_Convolve_num_Num__1 (C_transform_Convolve_num_Num__1.mk x2.t21 x2.t21) x5 V3) ∧
      (∀ (x6 : L_transform_Convolve_num_Num__1) (V4 : View), View.le V3 V4 → I_transform_Convolve_num_Num__1 (C_transform_Convolve_num_Num__1.mk x2.t21 x2.t21) x6 V4 →
        ((decide ((x6.t10 : Int) < (p0.len : Int))) = true →
          ((0 : Int) ≤ x6.t10 ∧ (x6.t10 : Int) < (p0.len : Nat) ∧ Option.isSome p0.a = true) ∧
        ∃ x7 : NumV, View.has V4 (Option.map (fun q => Addr.add q (Int.toNat x6.t10 * 5)) p0.a) (x7.val).cells.toList ∧ Option.isSome (Option.map (fun q => Addr.add q (Int.toNat x6.t10 * 5)) p0.a) = true ∧
        ((p0.len : Int) : Int) ≠ 0 ∧
        ((0 : Int) ≤ (Int.tmod (IntKind.i64.wrap ((IntKind.i64.wrap (x2.t21 - x6.t10)) + (p0.len : Int))) (p0.len : Int)) ∧ ((Int.tmod (IntKind.i64.wrap ((IntKind.i64.wrap (x2.t21 - x6.t10)) + (p0.len : Int))) (p0.len : Int)) : Int) < (p1.len : Nat) ∧ Option.isSome p1.a = true) ∧
        ∃ x8 : NumV, View.has V4 (Option.map (fun q => Addr.add q (Int.toNat (Int.tmod (IntKind.i64.wrap ((IntKind.i64.wrap (x2.t21 - x6.t10)) + (p0.len : Int))) (p0.len : Int)) * 5)) p1.a) (x8.val).cells.toList ∧ Option.isSome (Option.map (fun q => Addr.add q (Int.toNat (Int.tmod (IntKind.i64.wrap ((IntKind.i64.wrap (x2.t21 - x6.t10)) + (p0.len : Int))) (p0.len : Int)) * 5)) p1.a) = true ∧
        CallV Try.prog 67 #[x7.val, x8.val] V4 fun v V5 => ∃ r3 : NumV, v = r3.val ∧ -- (num.Num).Mul
        CallV Try.prog 102 #[x6.o9.val, r3.val] V5 fun v V6 => ∃ r4 : NumV, v = r4.val ∧ -- (num.Num).Add
        ∃ x9 : L_transform_Convolve_num_Num__1, ((SV.val (p0.v) = SV.val (p0.v) ∧ SV.val (p1.v) = SV.val (p1.v) ∧ SV.val (.int .i64 (p0.len : Int)) = SV.val (.int .i64 (p0.len : Int)) ∧ SV.osl 18 0 (Int.toNat (p0.len : Int)) (Int.toNat (p0.len : Int)) = SV.osl 18 0 (Int.toNat (p0.len : Int)) (Int.toNat (p0.len : Int)) ∧ SV.val (.int .i64 x2.t21) = SV.val (.int .i64 x2.t21) ∧ SV.own 9 0 = SV.own 9 0 ∧ SV.val (.int .i64 (IntKind.i64.wrap (x6.t10 + 1))) = SV.val (.int .i64 x9.t10) ∧ SV.val (.int .i64 ((Int.toNat (p0.len : Int) : Nat) : Int)) = SV.val (.int .i64 ((Int.toNat (p0.len : Int) : Nat) : Int)) ∧ SV.val (.int .i64 x2.t21) = SV.val (.int .i64 x2.t21) ∧ True) ∧ ((some (⟨67, .fixed [.val (.bool r4.re.neg), .val (r4.re.mag.v), .val (.bool r4.im.neg), .val (r4.im.mag.v), .val (r4.under.v)]⟩) : Option OB) = some (⟨67, .fixed [.val (.bool x9.o9.re.neg), .val (x9.o9.re.mag.v), .val (.bool x9.o9.im.neg), .val (x9.o9.im.mag.v), .val (x9.o9.under.v)]⟩) ∧ (some (⟨67, .dyn x6.o18⟩) : Option OB) = some (⟨67, .dyn x9.o18⟩) ∧ True)) ∧ I_transform_Convolve_num_Num__1 (C_transform_Convolve_num_Num__1.mk x2.t21 x2.t21) x9 V6 ∧ mu_transform_Convolve_num_Num__1 (C_transform_Convolve_num_Num__1.mk x2.t21 x2.t21) x9 V6 < mu_transform_Convolve_num_Num__1 (C_transform_Convolve_num_Num__1.mk x2.t21 x2.t21) x6 V4) ∧
        ((decide ((x6.t10 : Int) < (p0.len : Int))) = false →
          ((0 : Int) ≤ x2.t21 ∧ (x2.t21 : Int) < (Int.toNat (p0.len : Int) : Nat)) ∧
      0 + Int.toNat x2.t21 * 5 + 5 ≤ List.length x6.o18 ∧
      ∃ x10 : L_transform_Convolve_num_Num__0, ((SV.val (p0.v) = SV.val (p0.v) ∧ SV.val (p1.v) = SV.val (p1.v) ∧ SV.val (.int .i64 (p0.len : Int)) = SV.val (.int .i64 (p0.len : Int)) ∧ SV.osl 18 0 (Int.toNat (p0.len : Int)) (Int.toNat (p0.len : Int)) = SV.osl 18 0 (Int.toNat (p0.len : Int)) (Int.toNat (p0.len : Int)) ∧ SV.val (.int .i64 ((Int.toNat (p0.len : Int) : Nat) : Int)) = SV.val (.int .i64 ((Int.toNat (p0.len : Int) : Nat) : Int)) ∧ SV.val (.int .i64 (IntKind.i64.wrap (x2.t21 + 1))) = SV.val (.int .i64 x10.t21) ∧ True) ∧ ((some (⟨67, .dyn (setL x6.o18 (0 + Int.toNat x2.t21 * 5) [.bool x6.o9.re.neg, x6.o9.re.mag.v, .bool x6.o9.im.neg, x6.o9.im.mag.v, x6.o9.under.v])⟩) : Option OB) = some (⟨67, .dyn x10.o18⟩) ∧ True)) ∧ I_transform_Convolve_num_Num__0 () x10 V4 ∧ mu_transform_Convolve_num_Num__0 () x10 V4 < mu_transform_Convolve_num_Num__0 () x2 V2))) ∧
      ((decide ((x2.t21 : Int) < ((Int.toNat (p0.len : Int) : Nat) : Int))) = false →
        ∀ (b1 : Nat) (V7 : View), View.le V2 V7 → V7 b1 = some (List.toArray x2.o18) →
    R (.tuple #[(Sl.mk (some (Addr.mk b1 0 none)) (Int.toNat (p0.len : Int)) (Int.toNat (p0.len : Int))).v, .int .i64 0]) V7))) from (CallV.mono h (fun _ _ _ ⟨r1, h29, h28⟩ => ⟨r1, h29, ⟨fun h27 => (h28.1 h27), fun h27 => ⟨(h28.2 h27).1, ⟨⟨(L_transform_Convolve_num_Num__0.mk 0 ((List.replicate (Int.toNat (p0.len : Int)) [Value.bool false, Value.slice none 0 0, Value.bool false, Value.slice none 0 0, Value.slice none 0 0]).flatten)), ⟨⟨rfl, rfl, rfl, rfl, rfl, rfl, trivial⟩, ⟨rfl, trivial⟩⟩, (h28.2 h27).2.1⟩, fun x2 V2 h25 h26 => ⟨fun h24 => ⟨(((h28.2 h27).2.2 x2 V2 h25 h26).1 h24).1, (match (((h28.2 h27).2.2 x2 V2 h25 h26).1 h24).2 with | ⟨x3, h20, h21, h19⟩ => ⟨x3, h20, h21, ⟨h19.1, (match h19.2 with | ⟨x4, h17, h18, h16⟩ => ⟨x4, h17, h18, (CallV.mono h16 (fun _ _ _ ⟨r2, h15, h14⟩ => ⟨r2, h15, ⟨⟨(L_transform_Convolve_num_Num__1.mk 1 r2 x2.o18), ⟨⟨rfl, rfl, rfl, rfl, rfl, rfl, rfl, rfl, rfl, trivial⟩, ⟨rfl, rfl, trivial⟩⟩, h14.1⟩, fun x6 V4 h12 h13 => ⟨fun h11 => ⟨((h14.2 x6 V4 h12 h13).1 h11).1, (match ((h14.2 x6 V4 h12 h13).1 h11).2 with | ⟨x7, h9, h10, h8⟩ => ⟨x7, h9, h10, ⟨h8.1, ⟨h8.2.1, (match h8.2.2 with | ⟨x8, h6, h7, h5⟩ => ⟨x8, h6, h7, (CallV.mono h5 (fun _ _ _ ⟨r3, h4, h3⟩ => ⟨r3, h4, (CallV.mono h3 (fun _ _ _ ⟨r4, h2, h1⟩ => ⟨r4, h2, ⟨(L_transform_Convolve_num_Num__1.mk (IntKind.i64.wrap (x6.t10 + 1)) r4 x6.o18), ⟨⟨rfl, rfl, rfl, rfl, rfl, rfl, rfl, rfl, rfl, trivial⟩, ⟨rfl, rfl, trivial⟩⟩, h1.1, h1.2⟩⟩))⟩))⟩)⟩⟩⟩)⟩, fun h11 => ⟨((h14.2 x6 V4 h12 h13).2 h11).1, ⟨((h14.2 x6 V4 h12 h13).2 h11).2.1, ⟨(L_transform_Convolve_num_Num__0.mk (IntKind.i64.wrap (x2.t21 + 1)) (setL x6.o18 (0 + Int.toNat x2.t21 * 5) [.bool x6.o9.re.neg, x6.o9.re.mag.v, .bool x6.o9.im.neg, x6.o9.im.mag.v, x6.o9.under.v])), ⟨⟨rfl, rfl, rfl, rfl, rfl, rfl, trivial⟩, ⟨rfl, trivial⟩⟩, ((h14.2 x6 V4 h12 h13).2 h11).2.2.1, ((h14.2 x6 V4 h12 h13).2 h11).2.2.2⟩⟩⟩⟩⟩⟩))⟩)⟩⟩)⟩, fun h24 => (fun b1 V7 h22 h23 => ((((h28.2 h27).2.2 x2 V2 h25 h26).2 h24) b1 V7 h22 h23))⟩⟩⟩⟩⟩))))

structure L_waveportref07_Convolve_0 where
  t7 : Int
  o15 : List Value
structure L_waveportref07_Convolve_1 where
  t8 : Int
  o15 : List Value
structure C_waveportref07_Convolve_1 where
  t7 : Int
/-- waveport/waveportref07.Convolve -/
theorem waveportref07_Convolve_vc (p0 : Sl) (p1 : Sl) (V : View) (R : Value → View → Prop) (I_waveportref07_Convolve_0 : Unit → L_waveportref07_Convolve_0 → View → Prop) (mu_waveportref07_Convolve_0 : Unit → L_waveportref07_Convolve_0 → View → Nat) (I_waveportref07_Convolve_1 : C_waveportref07_Convolve_1 → L_waveportref07_Convolve_1 → View → Prop) (mu_waveportref07_Convolve_1 : C_waveportref07_Convolve_1 → L_waveportref07_Convolve_1 → View → Nat)
  (h :
    CallV Try.prog 76 #[p0.v, p1.v] V fun v V1 => ∃ r1 : Bool, v = .bool r1 ∧ -- waveportref07.pair
    ((!r1) = true →
      R (.tuple #[(Sl.mk none 0 0).v, .int .i64 4]) V1) ∧
    ((!r1) = false →
      ((0 : Int) ≤ (p0.len : Int) ∧ ((p0.len : Int) : Int) ≤ (p0.len : Int) ∧ (88 : Int) * (p0.len : Int) ≤ 281474976710656 ∧ ((p0.len : Int) : Int) ≤ 9223372036854775807) ∧
    I_waveportref07_Convolve_0 () (L_waveportref07_Convolve_0.mk 0 ((List.replicate (Int.toNat (p0.len : Int)) [Value.bool false, Value.slice none 0 0, Value.bool false, Value.slice none 0 0, Value.slice none 0 0]).flatten)) V1 ∧
    (∀ (x2 : L_waveportref07_Convolve_0) (V2 : View), View.le V1 V2 → I_waveportref07_Convolve_0 () x2 V2 →
      ((decide ((x2.t7 : Int) < (p0.len : Int))) = true →
        ((0 : Int) ≤ 0 ∧ (0 : Int) < (p0.len : Nat) ∧ Option.isSome p0.a = true) ∧
      ∃ x3 : NumV, View.has V2 (Option.map (fun q => Addr.add q (Int.toNat 0 * 5)) p0.a) (x3.val).cells.toList ∧ Option.isSome (Option.map (fun q => Addr.add q (Int.toNat 0 * 5)) p0.a) = true ∧
      ((0 : Int) ≤ x2.t7 ∧ (x2.t7 : Int) < (p1.len : Nat) ∧ Option.isSome p1.a = true) ∧
      ∃ x4 : NumV, View.has V2 (Option.map (fun q => Addr.add q (Int.toNat x2.t7 * 5)) p1.a) (x4.val).cells.toList ∧ Option.isSome (Option.map (fun q => Addr.add q (Int.toNat x2.t7 * 5)) p1.a) = true ∧
      CallV Try.prog 65 #[x3.val, x4.val] V2 fun v V3 => ∃ r2 : NumV, v = r2.val ∧ -- waveportref01.Mul
      ((0 : Int) ≤ x2.t7 ∧ (x2.t7 : Int) < (Int.toNat (p0.len : Int) : Nat)) ∧
      0 + Int.toNat x2.t7 * 5 + 5 ≤ List.length x2.o15 ∧
      I_waveportref07_Convolve_1 (C_waveportref07_Convolve_1.mk x2.t7) (L_waveportref07_Convolve_1.mk 1 (setL x2.o15 (0 + Int.toNat x2.t7 * 5) [.bool r2.re.neg, r2.re.mag.v, .bool r2.im.neg, r2.im.mag.v, r2.under.v])) V3 ∧
      (∀ (x6 : L_waveportref07_Convolve_1) (V4 : View), View.le V3 V4 → I_waveportref07_Convolve_1 (C_waveportref07_Convolve_1.mk x2.t7) x6 V4 →
        ((decide ((x6.t8 : Int) < (p0.len : Int))) = true →
          ((0 : Int) ≤ x2.t7 ∧ (x2.t7 : Int) < (Int.toNat (p0.len : Int) : Nat)) ∧
        ∃ x7 : NumV, List.take 5 (List.drop (0 + Int.toNat x2.t7 * 5) x6.o15) = (x7.val).cells.toList ∧
        ((0 : Int) ≤ x6.t8 ∧ (x6.t8 : Int) < (p0.len : Nat) ∧ Option.isSome p0.a = true) ∧
        ∃ x8 : NumV, View.has V4 (Option.map (fun q => Addr.add q (Int.toNat x6.t8 * 5)) p0.a) (x8.val).cells.toList ∧ Option.isSome (Option.map (fun q => Addr.add q (Int.toNat x6.t8 * 5)) p0.a) = true ∧
        CallV Try.prog 77 #[.int .i64 x2.t7, .int .i64 (IntKind.i64.wrap (0 - x6.t8)), .int .i64 (p0.len : Int)] V4 fun v V5 => ∃ r3 : Int, v = .int .i64 r3 ∧ -- waveportref07.Moved
        ((0 : Int) ≤ r3 ∧ (r3 : Int) < (p1.len : Nat) ∧ Option.isSome p1.a = true) ∧
        ∃ x9 : NumV, View.has V5 (Option.map (fun q => Addr.add q (Int.toNat r3 * 5)) p1.a) (x9.val).cells.toList ∧ Option.isSome (Option.map (fun q => Addr.add q (Int.toNat r3 * 5)) p1.a) = true ∧
        CallV Try.prog 65 #[x8.val, x9.val] V5 fun v V6 => ∃ r4 : NumV, v = r4.val ∧ -- waveportref01.Mul
        CallV Try.prog 80 #[x7.val, r4.val] V6 fun v V7 => ∃ r5 : NumV, v = r5.val ∧ -- waveportref01.Add
        ((0 : Int) ≤ x2.t7 ∧ (x2.t7 : Int) < (Int.toNat (p0.len : Int) : Nat)) ∧
        0 + Int.toNat x2.t7 * 5 + 5 ≤ List.length x6.o15 ∧
        I_waveportref07_Convolve_1 (C_waveportref07_Convolve_1.mk x2.t7) (L_waveportref07_Convolve_1.mk (IntKind.i64.wrap (x6.t8 + 1)) (setL x6.o15 (0 + Int.toNat x2.t7 * 5) [.bool r5.re.neg, r5.re.mag.v, .bool r5.im.neg, r5.im.mag.v, r5.under.v])) V7 ∧ mu_waveportref07_Convolve_1 (C_waveportref07_Convolve_1.mk x2.t7) (L_waveportref07_Convolve_1.mk (IntKind.i64.wrap (x6.t8 + 1)) (setL x6.o15 (0 + Int.toNat x2.t7 * 5) [.bool r5.re.neg, r5.re.mag.v, .bool r5.im.neg, r5.im.mag.v, r5.under.v])) V7 < mu_waveportref07_Convolve_1 (C_waveportref07_Convolve_1.mk x2.t7) x6 V4) ∧
        ((decide ((x6.t8 : Int) < (p0.len : Int))) = false →
          I_waveportref07_Convolve_0 () (L_waveportref07_Convolve_0.mk (IntKind.i64.wrap (x2.t7 + 1)) x6.o15) V4 ∧ mu_waveportref07_Convolve_0 () (L_waveportref07_Convolve_0.mk (IntKind.i64.wrap (x2.t7 + 1)) x6.o15) V4 < mu_waveportref07_Convolve_0 () x2 V2))) ∧
      ((decide ((x2.t7 : Int) < (p0.len : Int))) = false →
        ∀ (b1 : Nat) (V8 : View), View.le V2 V8 → V8 b1 = some (List.toArray x2.o15) →
    R (.tuple #[(Sl.mk (some (Addr.mk b1 0 none)) (Int.toNat (p0.len : Int)) (Int.toNat (p0.len : Int))).v, .int .i64 0]) V8)))) :
  CallV Try.prog 40 #[p0.v, p1.v] V R :=
  calls_of_vc (Shp := Shp) hmixed Try.func40 (c := Try.f40.body.getD .skip) (args := [p0.v, p1.v]) (by kernel_rfl)
    (.seq (.reg [⟨4, 2, false⟩, ⟨5, 2, false⟩]) (.seq (.seq (.reg [⟨9, 2, false⟩, ⟨10, 2, false⟩, ⟨11, 10, false⟩, ⟨12, 0, false⟩]) (.cond (.seq (.reg [⟨4, 2, false⟩, ⟨5, 2, false⟩]) .leaf) .leaf)) (.seq (.reg [⟨13, 2, false⟩, ⟨14, 0, false⟩, ⟨15, 3, false⟩, ⟨6, 2, false⟩]) (.seq (.seq (.reg [⟨7, 2, false⟩]) (.block (.loop Unit L_waveportref07_Convolve_0 (fun _ => ()) (fun c x => { tm := spT 62 0 [(0, .val (p0.v)), (1, .val (p1.v)), (6, .osl 15 0 (Int.toNat (p0.len : Int)) (Int.toNat (p0.len : Int))), (7, .val (.int .i64 x.t7))], own := spO 62 0 [(15, ⟨77, .dyn x.o15⟩)] }) I_waveportref07_Convolve_0 mu_waveportref07_Convolve_0 (.seq (.seq (.reg [⟨16, 2, false⟩, ⟨17, 2, false⟩, ⟨18, 0, false⟩, ⟨19, 0, false⟩]) (.cond .leaf .leaf)) (.seq (.block (.seq (.draw [(0, ⟨22, 2, false⟩), (1, ⟨23, 2, false⟩), (2, ⟨24, 2, false⟩), (3, ⟨25, 7, false⟩), (4, ⟨26, 5, false⟩), (5, ⟨27, 2, false⟩), (6, ⟨28, 2, false⟩), (7, ⟨29, 7, false⟩), (8, ⟨30, 5, false⟩), (9, ⟨31, 10, false⟩), (10, ⟨32, 7, false⟩), (11, ⟨15, 6, false⟩)] [0, 0, 0, 4, 12, 0, 0, 96, 224, 508, 1023, 2047]) (.seq (.reg [⟨8, 2, false⟩]) (.block (.loop C_waveportref07_Convolve_1 L_waveportref07_Convolve_1 (fun σ => C_waveportref07_Convolve_1.mk (gInt (gTm σ 7))) (fun c x => { tm := spT 62 0 [(0, .val (p0.v)), (1, .val (p1.v)), (6, .osl 15 0 (Int.toNat (p0.len : Int)) (Int.toNat (p0.len : Int))), (7, .val (.int .i64 c.t7)), (8, .val (.int .i64 x.t8))], own := spO 62 0 [(15, ⟨77, .dyn x.o15⟩)] }) I_waveportref07_Convolve_1 mu_waveportref07_Convolve_1 (.seq (.seq (.reg [⟨33, 2, false⟩, ⟨34, 2, false⟩, ⟨35, 0, false⟩, ⟨36, 0, false⟩]) (.cond .leaf .leaf)) (.seq (.block (.draw [(0, ⟨39, 2, false⟩), (1, ⟨40, 2, false⟩), (2, ⟨41, 2, false⟩), (3, ⟨42, 2, false⟩), (4, ⟨43, 7, false⟩), (5, ⟨15, 4, false⟩), (6, ⟨45, 2, false⟩), (7, ⟨46, 2, false⟩), (8, ⟨47, 7, false⟩), (9, ⟨48, 5, false⟩), (10, ⟨49, 2, false⟩), (11, ⟨50, 2, false⟩), (12, ⟨51, 2, false⟩), (13, ⟨52, 0, false⟩), (14, ⟨53, 2, false⟩), (15, ⟨54, 0, false⟩), (16, ⟨55, 10, false⟩), (17, ⟨56, 7, false⟩), (18, ⟨57, 5, false⟩), (19, ⟨58, 10, false⟩), (20, ⟨59, 10, false⟩), (21, ⟨60, 7, false⟩), (22, ⟨15, 6, false⟩)] [0, 0, 0, 0, 12, 28, 0, 0, 192, 448, 0, 0, 0, 4096, 0, 16384, 63488, 130048, 261120, 524224, 1048572, 2097151, 4194303])) (.reg [⟨37, 2, false⟩, ⟨38, 0, false⟩, ⟨8, 2, false⟩])))))))) (.reg [⟨20, 2, false⟩, ⟨21, 0, false⟩, ⟨7, 2, false⟩])))))) (.seq (.reg [⟨61, 2, false⟩, ⟨4, 2, false⟩, ⟨5, 2, false⟩]) (.pub 15 .leaf))))))
    (Eq.mpr (by kernel_rfl) (show CallV Try.prog 76 #[p0.v, p1.v] V fun v V1 => ∃ r1 : Bool, v = .bool r1 ∧ -- waveportref07.pair
    ((!r1) = true →
      R (.tuple #[(Sl.mk none 0 0).v, .int .i64 4]) V1) ∧
    ((!r1) = false →
      ((0 : Int) ≤ (p0.len : Int) ∧ ((p0.len : Int) : Int) ≤ (p0.len : Int) ∧ (88 : Int) * (p0.len : Int) ≤ 281474976710656 ∧ ((p0.len : Int) : Int) ≤ 9223372036854775807) ∧
    (∃ x1 : L_waveportref07_Convolve_0, ((SV.val (p0.v) = SV.val (p0.v) ∧ SV.val (p1.v) = SV.val (p1.v) ∧ SV.osl 15 0 (Int.toNat (p0.len : Int)) (Int.toNat (p0.len : Int)) = SV.osl 15 0 (Int.toNat (p0.len : Int)) (Int.toNat (p0.len : Int)) ∧ SV.val (.int .i64 0) = SV.val (.int .i64 x1.t7) ∧ True) ∧ ((some (⟨77, .dyn ((List.replicate (Int.toNat (p0.len : Int)) [Value.bool false, Value.slice none 0 0, Value.bool false, Value.slice none 0 0, Value.slice none 0 0]).flatten)⟩) : Option OB) = some (⟨77, .dyn x1.o15⟩) ∧ True)) ∧ I_waveportref07_Convolve_0 () x1 V1) ∧
    (∀ (x2 : L_waveportref07_Convolve_0) (V2 : View), View.le V1 V2 → I_waveportref07_Convolve_0 () x2 V2 →
      ((decide ((x2.t7 : Int) < (p0.len : Int))) = true →
        ((0 : Int) ≤ 0 ∧ (0 : Int) < (p0.len : Nat) ∧ Option.isSome p0.a = true) ∧
      ∃ x3 : NumV, View.has V2 (Option.map (fun q => Addr.add q (Int.toNat 0 * 5)) p0.a) (x3.val).cells.toList ∧ Option.isSome (Option.map (fun q => Addr.add q (Int.toNat 0 * 5)) p0.a) = true ∧
      ((0 : Int) ≤ x2.t7 ∧ (x2.t7 : Int) < (p1.len : Nat) ∧ Option.isSome p1.a = true) ∧
      ∃ x4 : NumV, View.has V2 (Option.map (fun q => Addr.add q (Int.toNat x2.t7 * 5)) p1.a) (x4.val).cells.toList ∧ Option.isSome (Option.map (fun q => Addr.add q (Int.toNat x2.t7 * 5)) p1.a) = true ∧
      CallV Try.prog 65 #[x3.val, x4.val] V2 fun v V3 => ∃ r2 : NumV, v = r2.val ∧ -- waveportref01.Mul
      ((0 : Int) ≤ x2.t7 ∧ (x2.t7 : Int) < (Int.toNat (p0.len : Int) : Nat)) ∧
      0 + Int.toNat x2.t7 * 5 + 5 ≤ List.length x2.o15 ∧
      (∃ x5 : L_waveportref07_Convolve_1, ((SV.val (p0.v) = SV.val (p0.v) ∧ SV.val (p1.v) = SV.val (p1.v) ∧ SV.osl 15 0 (Int.toNat (p0.len : Int)) (Int.toNat (p0.len : Int)) = SV.osl 15 0 (Int.toNat (p0.len : Int)) (Int.toNat (p0.len : Int)) ∧ SV.val (.int .i64 x2.t7) = SV.val (.int .i64 x2.t7) ∧ SV.val (.int .i64 1) = SV.val (.int .i64 x5.t8) ∧ True) ∧ ((some (⟨77, .dyn (setL x2.o15 (0 + Int.toNat x2.t7 * 5) [.bool r2.re.neg, r2.re.mag.v, .bool r2.im.neg, r2.im.mag.v, r2.under.v])⟩) : Option OB) = some (⟨77, .dyn x5.o15⟩) ∧ True)) ∧ I_waveportref07_Convolve_1 (C_waveportref07_Convolve_1.mk x2.t7) x5 V3) ∧
      (∀ (x6 : L_waveportref07_Convolve_1) (V4 : View), View.le V3 V4 → I_waveportref07_Convolve_1 (C_waveportref07_Convolve_1.mk x2.t7) x6 V4 →
        ((decide ((x6.t8 : Int) < (p0.len : Int))) = true →
          ((0 : Int) ≤ x2.t7 ∧ (x2.t7 : Int) < (Int.toNat (p0.len : Int) : Nat)) ∧
        ∃ x7 : NumV, List.take 5 (List.drop (0 + Int.toNat x2.t7 * 5) x6.o15) = (x7.val).cells.toList ∧
        ((0 : Int) ≤ x6.t8 ∧ (x6.t8 : Int) < (p0.len : Nat) ∧ Option.isSome p0.a = true) ∧
        ∃ x8 : NumV, View.has V4 (Option.map (fun q => Addr.add q (Int.toNat x6.t8 * 5)) p0.a) (x8.val).cells.toList ∧ Option.isSome (Option.map (fun q => Addr.add q (Int.toNat x6.t8 * 5)) p0.a) = true ∧
        CallV Try.prog 77 #[.int .i64 x2.t7, .int .i64 (IntKind.i64.wrap (0 - x6.t8)), .int .i64 (p0.len : Int)] V4 fun v V5 => ∃ r3 : Int, v = .int .i64 r3 ∧ -- waveportref07.Moved
        ((0 : Int) ≤ r3 ∧ (r3 : Int) < (p1.len : Nat) ∧ Option.isSome p1.a = true) ∧
        ∃ x9 : NumV, View.has V5 (Option.map (fun q => Addr.add q (Int.toNat r3 * 5)) p1.a) (x9.val).cells.toList ∧ Option.isSome (Option.map (fun q => Addr.add q (Int.toNat r3 * 5)) p1.a) = true ∧
        CallV Try.prog 65 #[x8.val, x9.val] V5 fun v V6 => ∃ r4 : NumV, v = r4.val ∧ -- waveportref01.Mul
        CallV Try.prog 80 #[x7.val, r4.val] V6 fun v V7 => ∃ r5 : NumV, v = r5.val ∧ -- waveportref01.Add
        ((0 : Int) ≤ x2.t7 ∧ (x2.t7 : Int) < (Int.toNat (p0.len : Int) : Nat)) ∧
        0 + Int.toNat x2.t7 * 5 + 5 ≤ List.length x6.o15 ∧
        ∃ x10 : L_waveportref07_Convolve_1, ((SV.val (p0.v) = SV.val (p0.v) ∧ SV.val (p1.v) = SV.val (p1.v) ∧ SV.osl 15 0 (Int.toNat (p0.len : Int)) (Int.toNat (p0.len : Int)) = SV.osl 15 0 (Int.toNat (p0.len : Int)) (Int.toNat (p0.len : Int)) ∧ SV.val (.int .i64 x2.t7) = SV.val (.int .i64 x2.t7) ∧ SV.val (.int .i64 (IntKind.i64.wrap (x6.t8 + 1))) = SV.val (.int .i64 x10.t8) ∧ True) ∧ ((some (⟨77, .dyn (setL x6.o15 (0 + Int.toNat x2.t7 * 5) [.bool r5.re.neg, r5.re.mag.v, .bool r5.im.neg, r5.im.mag.v, r5.under.v])⟩) : Option OB) = some (⟨77, .dyn x10.o15⟩) ∧ True)) ∧ I_waveportref07_Convolve_1 (C_waveportref07_Convolve_1.mk x2.t7) x10 V7 ∧ mu_waveportref07_Convolve_1 (C_waveportref07_Convolve_1.mk x2.t7) x10 V7 < mu_waveportref07_Convolve_1 (C_waveportref07_Convolve_1.mk x2.t7) x6 V4) ∧
        ((decide ((x6.t8 : Int) < (p0.len : Int))) = false →
          ∃ x11 : L_waveportref07_Convolve_0, ((SV.val (p0.v) = SV.val (p0.v) ∧ SV.val (p1.v) = SV.val (p1.v) ∧ SV.osl 15 0 (Int.toNat (p0.len : Int)) (Int.toNat (p0.len : Int)) = SV.osl 15 0 (Int.toNat (p0.len : Int)) (Int.toNat (p0.len : Int)) ∧ SV.val (.int .i64 (IntKind.i64.wrap (x2.t7 + 1))) = SV.val (.int .i64 x11.t7) ∧ True) ∧ ((some (⟨77, .dyn x6.o15⟩) : Option OB) = some (⟨77, .dyn x11.o15⟩) ∧ True)) ∧ I_waveportref07_Convolve_0 () x11 V4 ∧ mu_waveportref07_Convolve_0 () x11 V4 < mu_waveportref07_Convolve_0 () x2 V2))) ∧
      ((decide ((x2.t7 : Int) < (p0.len : Int))) = false →
        ∀ (b1 : Nat) (V8 : View), View.le V2 V8 → V8 b1 = some (List.toArray x2.o15) →
    R (.tuple #[(Sl.mk (some (Addr.mk b1 0 none)) (Int.toNat (p0.len : Int)) (Int.toNat (p0.len : Int))).v, .int .i64 0]) V8))) from (CallV.mono h (fun _ _ _ ⟨r1, h33, h32⟩ => ⟨r1, h33, ⟨fun h31 => (h32.1 h31), fun h31 => ⟨(h32.2 h31).1, ⟨⟨(L_waveportref07_Convolve_0.mk 0 ((List.replicate (Int.toNat (p0.len : Int)) [Value.bool false, Value.slice none 0 0, Value.bool false, Value.slice none 0 0, Value.slice none 0 0]).flatten)), ⟨⟨rfl, rfl, rfl, rfl, trivial⟩, ⟨rfl, trivial⟩⟩, (h32.2 h31).2.1⟩, fun x2 V2 h29 h30 => ⟨fun h28 => ⟨(((h32.2 h31).2.2 x2 V2 h29 h30).1 h28).1, (match (((h32.2 h31).2.2 x2 V2 h29 h30).1 h28).2 with | ⟨x3, h24, h25, h23⟩ => ⟨x3, h24, h25, ⟨h23.1, (match h23.2 with | ⟨x4, h21, h22, h20⟩ => ⟨x4, h21, h22, (CallV.mono h20 (fun _ _ _ ⟨r2, h19, h18⟩ => ⟨r2, h19, ⟨h18.1, ⟨h18.2.1, ⟨⟨(L_waveportref07_Convolve_1.mk 1 (setL x2.o15 (0 + Int.toNat x2.t7 * 5) [.bool r2.re.neg, r2.re.mag.v, .bool r2.im.neg, r2.im.mag.v, r2.under.v])), ⟨⟨rfl, rfl, rfl, rfl, rfl, trivial⟩, ⟨rfl, trivial⟩⟩, h18.2.2.1⟩, fun x6 V4 h16 h17 => ⟨fun h15 => ⟨((h18.2.2.2 x6 V4 h16 h17).1 h15).1, (match ((h18.2.2.2 x6 V4 h16 h17).1 h15).2 with | ⟨x7, h14, h13⟩ => ⟨x7, h14, ⟨h13.1, (match h13.2 with | ⟨x8, h11, h12, h10⟩ => ⟨x8, h11, h12, (CallV.mono h10 (fun _ _ _ ⟨r3, h9, h8⟩ => ⟨r3, h9, ⟨h8.1, (match h8.2 with | ⟨x9, h6, h7, h5⟩ => ⟨x9, h6, h7, (CallV.mono h5 (fun _ _ _ ⟨r4, h4, h3⟩ => ⟨r4, h4, (CallV.mono h3 (fun _ _ _ ⟨r5, h2, h1⟩ => ⟨r5, h2, ⟨h1.1, ⟨h1.2.1, ⟨(L_waveportref07_Convolve_1.mk (IntKind.i64.wrap (x6.t8 + 1)) (setL x6.o15 (0 + Int.toNat x2.t7 * 5) [.bool r5.re.neg, r5.re.mag.v, .bool r5.im.neg, r5.im.mag.v, r5.under.v])), ⟨⟨rfl, rfl, rfl, rfl, rfl, trivial⟩, ⟨rfl, trivial⟩⟩, h1.2.2.1, h1.2.2.2⟩⟩⟩⟩))⟩))⟩)⟩⟩))⟩)⟩⟩)⟩, fun h15 => ⟨(L_waveportref07_Convolve_0.mk (IntKind.i64.wrap (x2.t7 + 1)) x6.o15), ⟨⟨rfl, rfl, rfl, rfl, trivial⟩, ⟨rfl, trivial⟩⟩, ((h18.2.2.2 x6 V4 h16 h17).2 h15).1, ((h18.2.2.2 x6 V4 h16 h17).2 h15).2⟩⟩⟩⟩⟩⟩))⟩)⟩⟩)⟩, fun h28 => (fun b1 V8 h26 h27 => ((((h32.2 h31).2.2 x2 V2 h29 h30).2 h28) b1 V8 h26 h27))⟩⟩⟩⟩⟩))))

structure L_waveportref07_Steps_0 where
  t5 : Int
  o12 : List Value
/-- waveport/waveportref07.Steps -/
theorem waveportref07_Steps_vc (p0 : Sl) (V : View) (R : Value → View → Prop) (I_waveportref07_Steps_0 : Unit → L_waveportref07_Steps_0 → View → Prop) (mu_waveportref07_Steps_0 : Unit → L_waveportref07_Steps_0 → View → Nat)
  (h :
    CallV Try.prog 76 #[p0.v, p0.v] V fun v V1 => ∃ r1 : Bool, v = .bool r1 ∧ -- waveportref07.pair
    ((!r1) = true →
      R (.tuple #[(Sl.mk none 0 0).v, .int .i64 4]) V1) ∧
    ((!r1) = false →
      ((0 : Int) ≤ (p0.len : Int) ∧ ((p0.len : Int) : Int) ≤ (p0.len : Int) ∧ (88 : Int) * (p0.len : Int) ≤ 281474976710656 ∧ ((p0.len : Int) : Int) ≤ 9223372036854775807) ∧
    I_waveportref07_Steps_0 () (L_waveportref07_Steps_0.mk 0 ((List.replicate (Int.toNat (p0.len : Int)) [Value.bool false, Value.slice none 0 0, Value.bool false, Value.slice none 0 0, Value.slice none 0 0]).flatten)) V1 ∧
    (∀ (x2 : L_waveportref07_Steps_0) (V2 : View), View.le V1 V2 → I_waveportref07_Steps_0 () x2 V2 →
      ((decide ((x2.t5 : Int) < (p0.len : Int))) = true →
        ((0 : Int) ≤ x2.t5 ∧ (x2.t5 : Int) < (p0.len : Nat) ∧ Option.isSome p0.a = true) ∧
      ∃ x3 : NumV, View.has V2 (Option.map (fun q => Addr.add q (Int.toNat x2.t5 * 5)) p0.a) (x3.val).cells.toList ∧ Option.isSome (Option.map (fun q => Addr.add q (Int.toNat x2.t5 * 5)) p0.a) = true ∧
      ((0 : Int) ≤ x2.t5 ∧ (x2.t5 : Int) < (Int.toNat (p0.len : Int) : Nat)) ∧
      0 + Int.toNat x2.t5 * 5 + 5 ≤ List.length x2.o12 ∧
      ((decide ((x2.t5 : Int) > 0)) = true →
        ((0 : Int) ≤ (IntKind.i64.wrap (x2.t5 - 1)) ∧ ((IntKind.i64.wrap (x2.t5 - 1)) : Int) < (Int.toNat (p0.len : Int) : Nat)) ∧
        ∃ x4 : NumV, List.take 5 (List.drop (0 + Int.toNat (IntKind.i64.wrap (x2.t5 - 1)) * 5) (setL x2.o12 (0 + Int.toNat x2.t5 * 5) [.bool x3.re.neg, x3.re.mag.v, .bool x3.im.neg, x3.im.mag.v, x3.under.v])) = (x4.val).cells.toList ∧
        ((0 : Int) ≤ x2.t5 ∧ (x2.t5 : Int) < (p0.len : Nat) ∧ Option.isSome p0.a = true) ∧
        ∃ x5 : NumV, View.has V2 (Option.map (fun q => Addr.add q (Int.toNat x2.t5 * 5)) p0.a) (x5.val).cells.toList ∧ Option.isSome (Option.map (fun q => Addr.add q (Int.toNat x2.t5 * 5)) p0.a) = true ∧
        CallV Try.prog 80 #[x4.val, x5.val] V2 fun v V3 => ∃ r2 : NumV, v = r2.val ∧ -- waveportref01.Add
        ((0 : Int) ≤ x2.t5 ∧ (x2.t5 : Int) < (Int.toNat (p0.len : Int) : Nat)) ∧
        0 + Int.toNat x2.t5 * 5 + 5 ≤ List.length (setL x2.o12 (0 + Int.toNat x2.t5 * 5) [.bool x3.re.neg, x3.re.mag.v, .bool x3.im.neg, x3.im.mag.v, x3.under.v]) ∧
        I_waveportref07_Steps_0 () (L_waveportref07_Steps_0.mk (IntKind.i64.wrap (x2.t5 + 1)) (setL (setL x2.o12 (0 + Int.toNat x2.t5 * 5) [.bool x3.re.neg, x3.re.mag.v, .bool x3.im.neg, x3.im.mag.v, x3.under.v]) (0 + Int.toNat x2.t5 * 5) [.bool r2.re.neg, r2.re.mag.v, .bool r2.im.neg, r2.im.mag.v, r2.under.v])) V3 ∧ mu_waveportref07_Steps_0 () (L_waveportref07_Steps_0.mk (IntKind.i64.wrap (x2.t5 + 1)) (setL (setL x2.o12 (0 + Int.toNat x2.t5 * 5) [.bool x3.re.neg, x3.re.mag.v, .bool x3.im.neg, x3.im.mag.v, x3.under.v]) (0 + Int.toNat x2.t5 * 5) [.bool r2.re.neg, r2.re.mag.v, .bool r2.im.neg, r2.im.mag.v, r2.under.v])) V3 < mu_waveportref07_Steps_0 () x2 V2) ∧
      ((decide ((x2.t5 : Int) > 0)) = false →
        I_waveportref07_Steps_0 () (L_waveportref07_Steps_0.mk (IntKind.i64.wrap (x2.t5 + 1)) (setL x2.o12 (0 + Int.toNat x2.t5 * 5) [.bool x3.re.neg, x3.re.mag.v, .bool x3.im.neg, x3.im.mag.v, x3.under.v])) V2 ∧ mu_waveportref07_Steps_0 () (L_waveportref07_Steps_0.mk (IntKind.i64.wrap (x2.t5 + 1)) (setL x2.o12 (0 + Int.toNat x2.t5 * 5) [.bool x3.re.neg, x3.re.mag.v, .bool x3.im.neg, x3.im.mag.v, x3.under.v])) V2 < mu_waveportref07_Steps_0 () x2 V2)) ∧
      ((decide ((x2.t5 : Int) < (p0.len : Int))) = false →
        ∀ (b1 : Nat) (V4 : View), View.le V2 V4 → V4 b1 = some (List.toArray x2.o12) →
    R (.tuple #[(Sl.mk (some (Addr.mk b1 0 none)) (Int.toNat (p0.len : Int)) (Int.toNat (p0.len : Int))).v, .int .i64 0]) V4)))) :
  CallV Try.prog 42 #[p0.v] V R :=
  calls_of_vc (Shp := Shp) hmixed Try.func42 (c := Try.f42.body.getD .skip) (args := [p0.v]) (by kernel_rfl)
    (.seq (.reg [⟨2, 2, false⟩, ⟨3, 2, false⟩]) (.seq (.seq (.reg [⟨6, 2, false⟩, ⟨7, 2, false⟩, ⟨8, 10, false⟩, ⟨9, 0, false⟩]) (.cond (.seq (.reg [⟨2, 2, false⟩, ⟨3, 2, false⟩]) .leaf) .leaf)) (.seq (.reg [⟨10, 2, false⟩, ⟨11, 0, false⟩, ⟨12, 3, false⟩, ⟨4, 2, false⟩]) (.seq (.seq (.reg [⟨5, 2, false⟩]) (.block (.loop Unit L_waveportref07_Steps_0 (fun _ => ()) (fun c x => { tm := spT 42 0 [(0, .val (p0.v)), (4, .osl 12 0 (Int.toNat (p0.len : Int)) (Int.toNat (p0.len : Int))), (5, .val (.int .i64 x.t5))], own := spO 42 0 [(12, ⟨77, .dyn x.o12⟩)] }) I_waveportref07_Steps_0 mu_waveportref07_Steps_0 (.seq (.seq (.reg [⟨13, 2, false⟩, ⟨14, 2, false⟩, ⟨15, 0, false⟩, ⟨16, 0, false⟩]) (.cond .leaf .leaf)) (.seq (.block (.seq (.reg [⟨19, 2, false⟩, ⟨20, 2, false⟩, ⟨21, 2, false⟩, ⟨22, 2, false⟩, ⟨23, 7, false⟩, ⟨24, 5, false⟩, ⟨25, 7, false⟩, ⟨12, 6, false⟩]) (.seq (.reg [⟨26, 2, false⟩, ⟨27, 0, false⟩]) (.cond (.draw [(0, ⟨28, 2, false⟩), (1, ⟨29, 2, false⟩), (2, ⟨30, 2, false⟩), (3, ⟨31, 2, false⟩), (4, ⟨32, 0, false⟩), (5, ⟨33, 7, false⟩), (6, ⟨12, 4, false⟩), (7, ⟨35, 2, false⟩), (8, ⟨36, 2, false⟩), (9, ⟨37, 7, false⟩), (10, ⟨38, 5, false⟩), (11, ⟨39, 10, false⟩), (12, ⟨40, 7, false⟩), (13, ⟨12, 6, false⟩)] [0, 0, 0, 0, 8, 28, 60, 0, 0, 384, 896, 2044, 4095, 8191]) .leaf)))) (.reg [⟨17, 2, false⟩, ⟨18, 0, false⟩, ⟨5, 2, false⟩])))))) (.seq (.reg [⟨41, 2, false⟩, ⟨2, 2, false⟩, ⟨3, 2, false⟩]) (.pub 12 .leaf))))))
    (Eq.mpr (by kernel_rfl) (show CallV Try.prog 76 #[p0.v, p0.v] V fun v V1 => ∃ r1 : Bool, v = .bool r1 ∧ -- waveportref07.pair
    ((!r1) = true →
      R (.tuple #[(Sl.mk none 0 0).v, .int .i64 4]) V1) ∧
    ((!r1) = false →
      ((0 : Int) ≤ (p0.len : Int) ∧ ((p0.len : Int) : Int) ≤ (p0.len : Int) ∧ (88 : Int) * (p0.len : Int) ≤ 281474976710656 ∧ ((p0.len : Int) : Int) ≤ 9223372036854775807) ∧
    (∃ x1 : L_waveportref07_Steps_0, ((SV.val (p0.v) = SV.val (p0.v) ∧ SV.osl 12 0 (Int.toNat (p0.len : Int)) (Int.toNat (p0.len : Int)) = SV.osl 12 0 (Int.toNat (p0.len : Int)) (Int.toNat (p0.len : Int)) ∧ SV.val (.int .i64 0) = SV.val (.int .i64 x1.t5) ∧ True) ∧ ((some (⟨77, .dyn ((List.replicate (Int.toNat (p0.len : Int)) [Value.bool false, Value.slice none 0 0, Value.bool false, Value.slice none 0 0, Value.slice none 0 0]).flatten)⟩) : Option OB) = some (⟨77, .dyn x1.o12⟩) ∧ True)) ∧ I_waveportref07_Steps_0 () x1 V1) ∧
    (∀ (x2 : L_waveportref07_Steps_0) (V2 : View), View.le V1 V2 → I_waveportref07_Steps_0 () x2 V2 →
      ((decide ((x2.t5 : Int) < (p0.len : Int))) = true →
        ((0 : Int) ≤ x2.t5 ∧ (x2.t5 : Int) < (p0.len : Nat) ∧ Option.isSome p0.a = true) ∧
      ∃ x3 : NumV, View.has V2 (Option.map (fun q => Addr.add q (Int.toNat x2.t5 * 5)) p0.a) (x3.val).cells.toList ∧ Option.isSome (Option.map (fun q => Addr.add q (Int.toNat x2.t5 * 5)) p0.a) = true ∧
      ((0 : Int) ≤ x2.t5 ∧ (x2.t5 : Int) < (Int.toNat (p0.len : Int) : Nat)) ∧
      0 + Int.toNat x2.t5 * 5 + 5 ≤ List.length x2.o12 ∧
      ((decide ((x2.t5 : Int) > 0)) = true →
        ((0 : Int) ≤ (IntKind.i64.wrap (x2.t5 - 1)) ∧ ((IntKind.i64.wrap (x2.t5 - 1)) : Int) < (Int.toNat (p0.len : Int) : Nat)) ∧
        ∃ x4 : NumV, List.take 5 (List.drop (0 + Int.toNat (IntKind.i64.wrap (x2.t5 - 1)) * 5) (setL x2.o12 (0 + Int.toNat x2.t5 * 5) [.bool x3.re.neg, x3.re.mag.v, .bool x3.im.neg, x3.im.mag.v, x3.under.v])) = (x4.val).cells.toList ∧
        ((0 : Int) ≤ x2.t5 ∧ (x2.t5 : Int) < (p0.len : Nat) ∧ Option.isSome p0.a = true) ∧
        ∃ x5 : NumV, View.has V2 (Option.map (fun q => Addr.add q (Int.toNat x2.t5 * 5)) p0.a) (x5.val).cells.toList ∧ Option.isSome (Option.map (fun q => Addr.add q (Int.toNat x2.t5 * 5)) p0.a) = true ∧
        CallV Try.prog 80 #[x4.val, x5.val] V2 fun v V3 => ∃ r2 : NumV, v = r2.val ∧ -- waveportref01.Add
        ((0 : Int) ≤ x2.t5 ∧ (x2.t5 : Int) < (Int.toNat (p0.len : Int) : Nat)) ∧
        0 + Int.toNat x2.t5 * 5 + 5 ≤ List.length (setL x2.o12 (0 + Int.toNat x2.t5 * 5) [.bool x3.re.neg, x3.re.mag.v, .bool x3.im.neg, x3.im.mag.v, x3.under.v]) ∧
        ∃ x6 : L_waveportref07_Steps_0, ((SV.val (p0.v) = SV.val (p0.v) ∧ SV.osl 12 0 (Int.toNat (p0.len : Int)) (Int.toNat (p0.len : Int)) = SV.osl 12 0 (Int.toNat (p0.len : Int)) (Int.toNat (p0.len : Int)) ∧ SV.val (.int .i64 (IntKind.i64.wrap (x2.t5 + 1))) = SV.val (.int .i64 x6.t5) ∧ True) ∧ ((some (⟨77, .dyn (setL (setL x2.o12 (0 + Int.toNat x2.t5 * 5) [.bool x3.re.neg, x3.re.mag.v, .bool x3.im.neg, x3.im.mag.v, x3.under.v]) (0 + Int.toNat x2.t5 * 5) [.bool r2.re.neg, r2.re.mag.v, .bool r2.im.neg, r2.im.mag.v, r2.under.v])⟩) : Option OB) = some (⟨77, .dyn x6.o12⟩) ∧ True)) ∧ I_waveportref07_Steps_0 () x6 V3 ∧ mu_waveportref07_Steps_0 () x6 V3 < mu_waveportref07_Steps_0 () x2 V2) ∧
      ((decide ((x2.t5 : Int) > 0)) = false →
        ∃ x7 : L_waveportref07_Steps_0, ((SV.val (p0.v) = SV.val (p0.v) ∧ SV.osl 12 0 (Int.toNat (p0.len : Int)) (Int.toNat (p0.len : Int)) = SV.osl 12 0 (Int.toNat (p0.len : Int)) (Int.toNat (p0.len : Int)) ∧ SV.val (.int .i64 (IntKind.i64.wrap (x2.t5 + 1))) = SV.val (.int .i64 x7.t5) ∧ True) ∧ ((some (⟨77, .dyn (setL x2.o12 (0 + Int.toNat x2.t5 * 5) [.bool x3.re.neg, x3.re.mag.v, .bool x3.im.neg, x3.im.mag.v, x3.under.v])⟩) : Option OB) = some (⟨77, .dyn x7.o12⟩) ∧ True)) ∧ I_waveportref07_Steps_0 () x7 V2 ∧ mu_waveportref07_Steps_0 () x7 V2 < mu_waveportref07_Steps_0 () x2 V2)) ∧
      ((decide ((x2.t5 : Int) < (p0.len : Int))) = false →
        ∀ (b1 : Nat) (V4 : View), View.le V2 V4 → V4 b1 = some (List.toArray x2.o12) →
    R (.tuple #[(Sl.mk (some (Addr.mk b1 0 none)) (Int.toNat (p0.len : Int)) (Int.toNat (p0.len : Int))).v, .int .i64 0]) V4))) from (CallV.mono h (fun _ _ _ ⟨r1, h19, h18⟩ => ⟨r1, h19, ⟨fun h17 => (h18.1 h17), fun h17 => ⟨(h18.2 h17).1, ⟨⟨(L_waveportref07_Steps_0.mk 0 ((List.replicate (Int.toNat (p0.len : Int)) [Value.bool false, Value.slice none 0 0, Value.bool false, Value.slice none 0 0, Value.slice none 0 0]).flatten)), ⟨⟨rfl, rfl, rfl, trivial⟩, ⟨rfl, trivial⟩⟩, (h18.2 h17).2.1⟩, fun x2 V2 h15 h16 => ⟨fun h14 => ⟨(((h18.2 h17).2.2 x2 V2 h15 h16).1 h14).1, (match (((h18.2 h17).2.2 x2 V2 h15 h16).1 h14).2 with | ⟨x3, h10, h11, h9⟩ => ⟨x3, h10, h11, ⟨h9.1, ⟨h9.2.1, ⟨fun h8 => ⟨(h9.2.2.1 h8).1, (match (h9.2.2.1 h8).2 with | ⟨x4, h7, h6⟩ => ⟨x4, h7, ⟨h6.1, (match h6.2 with | ⟨x5, h4, h5, h3⟩ => ⟨x5, h4, h5, (CallV.mono h3 (fun _ _ _ ⟨r2, h2, h1⟩ => ⟨r2, h2, ⟨h1.1, ⟨h1.2.1, ⟨(L_waveportref07_Steps_0.mk (IntKind.i64.wrap (x2.t5 + 1)) (setL (setL x2.o12 (0 + Int.toNat x2.t5 * 5) [.bool x3.re.neg, x3.re.mag.v, .bool x3.im.neg, x3.im.mag.v, x3.under.v]) (0 + Int.toNat x2.t5 * 5) [.bool r2.re.neg, r2.re.mag.v, .bool r2.im.neg, r2.im.mag.v, r2.under.v])), ⟨⟨rfl, rfl, rfl, trivial⟩, ⟨rfl, trivial⟩⟩, h1.2.2.1, h1.2.2.2⟩⟩⟩⟩))⟩)⟩⟩)⟩, fun h8 => ⟨(L_waveportref07_Steps_0.mk (IntKind.i64.wrap (x2.t5 + 1)) (setL x2.o12 (0 + Int.toNat x2.t5 * 5) [.bool x3.re.neg, x3.re.mag.v, .bool x3.im.neg, x3.im.mag.v, x3.under.v])), ⟨⟨rfl, rfl, rfl, trivial⟩, ⟨rfl, trivial⟩⟩, (h9.2.2.2 h8).1, (h9.2.2.2 h8).2⟩⟩⟩⟩⟩)⟩, fun h14 => (fun b1 V4 h12 h13 => ((((h18.2 h17).2.2 x2 V2 h15 h16).2 h14) b1 V4 h12 h13))⟩⟩⟩⟩⟩))))

structure L_transform_Energy_num_Num__0 where
  t18 : Int
  o2 : NumV
  o4 : NumV
/-- waveport/transform.Energy[waveport/num.Num] -/
theorem transform_Energy_num_Num__vc (p0 : Sl) (V : View) (R : Value → View → Prop) (I_transform_Energy_num_Num__0 : Unit → L_transform_Energy_num_Num__0 → View → Prop) (mu_transform_Energy_num_Num__0 : Unit → L_transform_Energy_num_Num__0 → View → Nat)
  (h :
    ((decide (((p0.len : Int) : Int) > 64)) = true →
      R (.tuple #[(NumV.mk (WhV.mk false (Sl.mk none 0 0)) (WhV.mk false (Sl.mk none 0 0)) (Sl.mk none 0 0)).val, .int .i64 4]) V) ∧
    ((decide (((p0.len : Int) : Int) > 64)) = false →
      ((((p0.len : Int) : Int) == 0) = true →
      CallV Try.prog 78 #[.int .i64 0, .int .i64 1] V fun v V1 => ∃ r1 : NumV, v = r1.val ∧ -- transform.of[num.Num]
      R (.tuple #[r1.val, .int .i64 0]) V1) ∧
    ((((p0.len : Int) : Int) == 0) = false →
      I_transform_Energy_num_Num__0 () (L_transform_Energy_num_Num__0.mk 0 (NumV.mk (WhV.mk false (Sl.mk none 0 0)) (WhV.mk false (Sl.mk none 0 0)) (Sl.mk none 0 0)) (NumV.mk (WhV.mk false (Sl.mk none 0 0)) (WhV.mk false (Sl.mk none 0 0)) (Sl.mk none 0 0))) V ∧
    (∀ (x2 : L_transform_Energy_num_Num__0) (V2 : View), View.le V V2 → I_transform_Energy_num_Num__0 () x2 V2 →
      ((decide ((x2.t18 : Int) < (p0.len : Int))) = true →
        ((0 : Int) ≤ x2.t18 ∧ (x2.t18 : Int) < (p0.len : Nat) ∧ Option.isSome p0.a = true) ∧
      ∃ x3 : NumV, View.has V2 (Option.map (fun q => Addr.add q (Int.toNat x2.t18 * 5)) p0.a) (x3.val).cells.toList ∧ Option.isSome (Option.map (fun q => Addr.add q (Int.toNat x2.t18 * 5)) p0.a) = true ∧
      CallV Try.prog 231 #[x3.val] V2 fun v V3 => ∃ r2 : NumV, v = r2.val ∧ -- (num.Num).Conj
      CallV Try.prog 67 #[x3.val, r2.val] V3 fun v V4 => ∃ r3 : NumV, v = r3.val ∧ -- (num.Num).Mul
      (((x2.t18 : Int) == 0) = true →
        I_transform_Energy_num_Num__0 () (L_transform_Energy_num_Num__0.mk (IntKind.i64.wrap (x2.t18 + 1)) x2.o2 r3) V4 ∧ mu_transform_Energy_num_Num__0 () (L_transform_Energy_num_Num__0.mk (IntKind.i64.wrap (x2.t18 + 1)) x2.o2 r3) V4 < mu_transform_Energy_num_Num__0 () x2 V2) ∧
      (((x2.t18 : Int) == 0) = false →
        CallV Try.prog 102 #[x2.o4.val, r3.val] V4 fun v V5 => ∃ r4 : NumV, v = r4.val ∧ -- (num.Num).Add
      I_transform_Energy_num_Num__0 () (L_transform_Energy_num_Num__0.mk (IntKind.i64.wrap (x2.t18 + 1)) x2.o2 r4) V5 ∧ mu_transform_Energy_num_Num__0 () (L_transform_Energy_num_Num__0.mk (IntKind.i64.wrap (x2.t18 + 1)) x2.o2 r4) V5 < mu_transform_Energy_num_Num__0 () x2 V2)) ∧
      ((decide ((x2.t18 : Int) < (p0.len : Int))) = false →
        R (.tuple #[x2.o4.val, .int .i64 0]) V2))))) :
  CallV Try.prog 43 #[p0.v] V R :=
  calls_of_vc (Shp := Shp) hmixed Try.func43 (c := Try.f43.body.getD .skip) (args := [p0.v]) (by kernel_rfl)
    (.seq (.reg [⟨2, 3, false⟩, ⟨3, 2, false⟩]) (.seq (.reg [⟨4, 3, false⟩]) (.seq (.seq (.reg [⟨8, 2, false⟩, ⟨9, 0, false⟩, ⟨10, 0, false⟩]) (.cond (.seq (.reg [⟨4, 4, false⟩, ⟨2, 6, false⟩, ⟨3, 2, false⟩]) .leaf) .leaf)) (.seq (.seq (.reg [⟨12, 2, false⟩, ⟨13, 0, false⟩, ⟨14, 0, false⟩]) (.cond (.seq (.reg [⟨15, 10, false⟩, ⟨2, 6, false⟩, ⟨3, 2, false⟩]) .leaf) .leaf)) (.seq (.seq (.reg [⟨16, 2, false⟩, ⟨17, 0, false⟩, ⟨18, 2, false⟩]) (.block (.loop Unit L_transform_Energy_num_Num__0 (fun _ => ()) (fun c x => { tm := spT 38 0 [(2, .own 2 0), (4, .own 4 0), (16, .val (p0.v)), (17, .val (.int .i64 (p0.len : Int))), (18, .val (.int .i64 x.t18))], own := spO 38 0 [(2, ⟨67, .fixed [.val (.bool x.o2.re.neg), .val (x.o2.re.mag.v), .val (.bool x.o2.im.neg), .val (x.o2.im.mag.v), .val (x.o2.under.v)]⟩), (4, ⟨67, .fixed [.val (.bool x.o4.re.neg), .val (x.o4.re.mag.v), .val (.bool x.o4.im.neg), .val (x.o4.im.mag.v), .val (x.o4.under.v)]⟩)] }) I_transform_Energy_num_Num__0 mu_transform_Energy_num_Num__0 (.seq (.reg [⟨19, 0, false⟩]) (.seq (.cond .leaf .leaf) (.seq (.block (.seq (.reg [⟨20, 2, false⟩, ⟨21, 7, false⟩, ⟨22, 5, false⟩, ⟨6, 3, false⟩, ⟨5, 2, false⟩, ⟨6, 6, false⟩]) (.seq (.draw [(0, ⟨6, 4, false⟩), (1, ⟨24, 0, false⟩), (2, ⟨6, 4, false⟩), (3, ⟨26, 0, false⟩), (6, ⟨7, 3, false⟩), (4, ⟨27, 10, false⟩), (5, ⟨28, 10, false⟩), (7, ⟨7, 6, false⟩)] [0, 1, 0, 4, 12, 31, 0, 127]) (.seq (.seq (.reg [⟨29, 2, false⟩, ⟨30, 0, false⟩]) (.cond (.seq (.reg [⟨7, 4, false⟩, ⟨4, 6, false⟩]) .leaf) .leaf)) (.reg [⟨4, 4, false⟩, ⟨33, 0, false⟩, ⟨7, 4, false⟩, ⟨35, 10, false⟩, ⟨4, 6, false⟩]))))) (.reg [⟨36, 0, false⟩, ⟨18, 2, false⟩]))))))) (.seq (.reg [⟨4, 4, false⟩, ⟨2, 6, false⟩, ⟨3, 2, false⟩]) .leaf))))))
    (Eq.mpr (by kernel_rfl) (show ((decide (((p0.len : Int) : Int) > 64)) = true →
      R (.tuple #[(NumV.mk (WhV.mk false (Sl.mk none 0 0)) (WhV.mk false (Sl.mk none 0 0)) (Sl.mk none 0 0)).val, .int .i64 4]) V) ∧
    ((decide (((p0.len : Int) : Int) > 64)) = false →
      ((((p0.len : Int) : Int) == 0) = true →
      CallV Try.prog 78 #[.int .i64 0, .int .i64 1] V fun v V1 => ∃ r1 : NumV, v = r1.val ∧ -- transform.of[num.Num]
      R (.tuple #[r1.val, .int .i64 0]) V1) ∧
    ((((p0.len : Int) : Int) == 0) = false →
      (∃ x1 : L_transform_Energy_num_Num__0, ((SV.own 2 0 = SV.own 2 0 ∧ SV.own 4 0 = SV.own 4 0 ∧ SV.val (p0.v) = SV.val (p0.v) ∧ SV.val (.int .i64 (p0.len : Int)) = SV.val (.int .i64 (p0.len : Int)) ∧ SV.val (.int .i64 0) = SV.val (.int .i64 x1.t18) ∧ True) ∧ ((some (⟨67, .fixed [.val (.bool false), .val (.slice none 0 0), .val (.bool false), .val (.slice none 0 0), .val (.slice none 0 0)]⟩) : Option OB) = some (⟨67, .fixed [.val (.bool x1.o2.re.neg), .val (x1.o2.re.mag.v), .val (.bool x1.o2.im.neg), .val (x1.o2.im.mag.v), .val (x1.o2.under.v)]⟩) ∧ (some (⟨67, .fixed [.val (.bool false), .val (.slice none 0 0), .val (.bool false), .val (.slice none 0 0), .val (.slice none 0 0)]⟩) : Option OB) = some (⟨67, .fixed [.val (.bool x1.o4.re.neg), .val (x1.o4.re.mag.v), .val (.bool x1.o4.im.neg), .val (x1.o4.im.mag.v), .val (x1.o4.under.v)]⟩) ∧ True)) ∧ I_transform_Energy_num_Num__0 () x1 V) ∧
    (∀ (x2 : L_transform_Energy_num_Num__0) (V2 : View), View.le V V2 → I_transform_Energy_num_Num__0 () x2 V2 →
      ((decide ((x2.t18 : Int) < (p0.len : Int))) = true →
        ((0 : Int) ≤ x2.t18 ∧ (x2.t18 : Int) < (p0.len : Nat) ∧ Option.isSome p0.a = true) ∧
      ∃ x3 : NumV, View.has V2 (Option.map (fun q => Addr.add q (Int.toNat x2.t18 * 5)) p0.a) (x3.val).cells.toList ∧ Option.isSome (Option.map (fun q => Addr.add q (Int.toNat x2.t18 * 5)) p0.a) = true ∧
      CallV Try.prog 231 #[x3.val] V2 fun v V3 => ∃ r2 : NumV, v = r2.val ∧ -- (num.Num).Conj
      CallV Try.prog 67 #[x3.val, r2.val] V3 fun v V4 => ∃ r3 : NumV, v = r3.val ∧ -- (num.Num).Mul
      (((x2.t18 : Int) == 0) = true →
        ∃ x4 : L_transform_Energy_num_Num__0, ((SV.own 2 0 = SV.own 2 0 ∧ SV.own 4 0 = SV.own 4 0 ∧ SV.val (p0.v) = SV.val (p0.v) ∧ SV.val (.int .i64 (p0.len : Int)) = SV.val (.int .i64 (p0.len : Int)) ∧ SV.val (.int .i64 (IntKind.i64.wrap (x2.t18 + 1))) = SV.val (.int .i64 x4.t18) ∧ True) ∧ ((some (⟨67, .fixed [.val (.bool x2.o2.re.neg), .val (x2.o2.re.mag.v), .val (.bool x2.o2.im.neg), .val (x2.o2.im.mag.v), .val (x2.o2.under.v)]⟩) : Option OB) = some (⟨67, .fixed [.val (.bool x4.o2.re.neg), .val (x4.o2.re.mag.v), .val (.bool x4.o2.im.neg), .val (x4.o2.im.mag.v), .val (x4.o2.under.v)]⟩) ∧ (some (⟨67, .fixed [.val (.bool r3.re.neg), .val (r3.re.mag.v), .val (.bool r3.im.neg), .val (r3.im.mag.v), .val (r3.under.v)]⟩) : Option OB) = some (⟨67, .fixed [.val (.bool x4.o4.re.neg), .val (x4.o4.re.mag.v), .val (.bool x4.o4.im.neg), .val (x4.o4.im.mag.v), .val (x4.o4.under.v)]⟩) ∧ True)) ∧ I_transform_Energy_num_Num__0 () x4 V4 ∧ mu_transform_Energy_num_Num__0 () x4 V4 < mu_transform_Energy_num_Num__0 () x2 V2) ∧
      (((x2.t18 : Int) == 0) = false →
        CallV Try.prog 102 #[x2.o4.val, r3.val] V4 fun v V5 => ∃ r4 : NumV, v = r4.val ∧ -- (num.Num).Add
      ∃ x5 : L_transform_Energy_num_Num__0, ((SV.own 2 0 = SV.own 2 0 ∧ SV.own 4 0 = SV.own 4 0 ∧ SV.val (p0.v) = SV.val (p0.v) ∧ SV.val (.int .i64 (p0.len : Int)) = SV.val (.int .i64 (p0.len : Int)) ∧ SV.val (.int .i64 (IntKind.i64.wrap (x2.t18 + 1))) = SV.val (.int .i64 x5.t18) ∧ True) ∧ ((some (⟨67, .fixed [.val (.bool x2.o2.re.neg), .val (x2.o2.re.mag.v), .val (.bool x2.o2.im.neg), .val (x2.o2.im.mag.v), .val (x2.o2.under.v)]⟩) : Option OB) = some (⟨67, .fixed [.val (.bool x5.o2.re.neg), .val (x5.o2.re.mag.v), .val (.bool x5.o2.im.neg), .val (x5.o2.im.mag.v), .val (x5.o2.under.v)]⟩) ∧ (some (⟨67, .fixed [.val (.bool r4.re.neg), .val (r4.re.mag.v), .val (.bool r4.im.neg), .val (r4.im.mag.v), .val (r4.under.v)]⟩) : Option OB) = some (⟨67, .fixed [.val (.bool x5.o4.re.neg), .val (x5.o4.re.mag.v), .val (.bool x5.o4.im.neg), .val (x5.o4.im.mag.v), .val (x5.o4.under.v)]⟩) ∧ True)) ∧ I_transform_Energy_num_Num__0 () x5 V5 ∧ mu_transform_Energy_num_Num__0 () x5 V5 < mu_transform_Energy_num_Num__0 () x2 V2)) ∧
      ((decide ((x2.t18 : Int) < (p0.len : Int))) = false →
        R (.tuple #[x2.o4.val, .int .i64 0]) V2)))) from ⟨fun h17 => (h.1 h17), fun h17 => ⟨fun h16 => (CallV.mono ((h.2 h17).1 h16) (fun _ _ _ ⟨r1, h2, h1⟩ => ⟨r1, h2, h1⟩)), fun h16 => ⟨⟨(L_transform_Energy_num_Num__0.mk 0 (NumV.mk (WhV.mk false (Sl.mk none 0 0)) (WhV.mk false (Sl.mk none 0 0)) (Sl.mk none 0 0)) (NumV.mk (WhV.mk false (Sl.mk none 0 0)) (WhV.mk false (Sl.mk none 0 0)) (Sl.mk none 0 0))), ⟨⟨rfl, rfl, rfl, rfl, rfl, trivial⟩, ⟨rfl, rfl, trivial⟩⟩, ((h.2 h17).2 h16).1⟩, fun x2 V2 h14 h15 => ⟨fun h13 => ⟨((((h.2 h17).2 h16).2 x2 V2 h14 h15).1 h13).1, (match ((((h.2 h17).2 h16).2 x2 V2 h14 h15).1 h13).2 with | ⟨x3, h11, h12, h10⟩ => ⟨x3, h11, h12, (CallV.mono h10 (fun _ _ _ ⟨r2, h9, h8⟩ => ⟨r2, h9, (CallV.mono h8 (fun _ _ _ ⟨r3, h7, h6⟩ => ⟨r3, h7, ⟨fun h5 => ⟨(L_transform_Energy_num_Num__0.mk (IntKind.i64.wrap (x2.t18 + 1)) x2.o2 r3), ⟨⟨rfl, rfl, rfl, rfl, rfl, trivial⟩, ⟨rfl, rfl, trivial⟩⟩, (h6.1 h5).1, (h6.1 h5).2⟩, fun h5 => (CallV.mono (h6.2 h5) (fun _ _ _ ⟨r4, h4, h3⟩ => ⟨r4, h4, ⟨(L_transform_Energy_num_Num__0.mk (IntKind.i64.wrap (x2.t18 + 1)) x2.o2 r4), ⟨⟨rfl, rfl, rfl, rfl, rfl, trivial⟩, ⟨rfl, rfl, trivial⟩⟩, h3.1, h3.2⟩⟩))⟩⟩))⟩))⟩)⟩, fun h13 => ((((h.2 h17).2 h16).2 x2 V2 h14 h15).2 h13)⟩⟩⟩⟩))

structure L_waveportref07_Energy_0 where
  t5 : Int
  o2 : NumV
  o4 : NumV
/-- waveport/waveportref07.Energy -/
theorem waveportref07_Energy_vc (p0 : Sl) (V : View) (R : Value → View → Prop) (I_waveportref07_Energy_0 : Unit → L_waveportref07_Energy_0 → View → Prop) (mu_waveportref07_Energy_0 : Unit → L_waveportref07_Energy_0 → View → Nat)
  (h :
    CallV Try.prog 76 #[p0.v, p0.v] V fun v V1 => ∃ r1 : Bool, v = .bool r1 ∧ -- waveportref07.pair
    ((!r1) = true →
      CallV Try.prog 64 #[.int .i64 0] V1 fun v V2 => ∃ r2 : NumV, v = r2.val ∧ -- waveportref01.Whole
      R (.tuple #[r2.val, .int .i64 4]) V2) ∧
    ((!r1) = false →
      CallV Try.prog 64 #[.int .i64 0] V1 fun v V3 => ∃ r3 : NumV, v = r3.val ∧ -- waveportref01.Whole
    I_waveportref07_Energy_0 () (L_waveportref07_Energy_0.mk 0 (NumV.mk (WhV.mk false (Sl.mk none 0 0)) (WhV.mk false (Sl.mk none 0 0)) (Sl.mk none 0 0)) r3) V3 ∧
    (∀ (x2 : L_waveportref07_Energy_0) (V4 : View), View.le V3 V4 → I_waveportref07_Energy_0 () x2 V4 →
      ((decide ((x2.t5 : Int) < (p0.len : Int))) = true →
        ((0 : Int) ≤ x2.t5 ∧ (x2.t5 : Int) < (p0.len : Nat) ∧ Option.isSome p0.a = true) ∧
      ∃ x3 : NumV, View.has V4 (Option.map (fun q => Addr.add q (Int.toNat x2.t5 * 5)) p0.a) (x3.val).cells.toList ∧ Option.isSome (Option.map (fun q => Addr.add q (Int.toNat x2.t5 * 5)) p0.a) = true ∧
      ((0 : Int) ≤ x2.t5 ∧ (x2.t5 : Int) < (p0.len : Nat) ∧ Option.isSome p0.a = true) ∧
      ∃ x4 : NumV, View.has V4 (Option.map (fun q => Addr.add q (Int.toNat x2.t5 * 5)) p0.a) (x4.val).cells.toList ∧ Option.isSome (Option.map (fun q => Addr.add q (Int.toNat x2.t5 * 5)) p0.a) = true ∧
      CallV Try.prog 79 #[x4.val] V4 fun v V5 => ∃ r4 : NumV, v = r4.val ∧ -- waveportref01.Conj
      CallV Try.prog 65 #[x3.val, r4.val] V5 fun v V6 => ∃ r5 : NumV, v = r5.val ∧ -- waveportref01.Mul
      (((x2.t5 : Int) == 0) = true →
        I_waveportref07_Energy_0 () (L_waveportref07_Energy_0.mk (IntKind.i64.wrap (x2.t5 + 1)) x2.o2 r5) V6 ∧ mu_waveportref07_Energy_0 () (L_waveportref07_Energy_0.mk (IntKind.i64.wrap (x2.t5 + 1)) x2.o2 r5) V6 < mu_waveportref07_Energy_0 () x2 V4) ∧
      (((x2.t5 : Int) == 0) = false →
        CallV Try.prog 80 #[x2.o4.val, r5.val] V6 fun v V7 => ∃ r6 : NumV, v = r6.val ∧ -- waveportref01.Add
      I_waveportref07_Energy_0 () (L_waveportref07_Energy_0.mk (IntKind.i64.wrap (x2.t5 + 1)) x2.o2 r6) V7 ∧ mu_waveportref07_Energy_0 () (L_waveportref07_Energy_0.mk (IntKind.i64.wrap (x2.t5 + 1)) x2.o2 r6) V7 < mu_waveportref07_Energy_0 () x2 V4)) ∧
      ((decide ((x2.t5 : Int) < (p0.len : Int))) = false →
        R (.tuple #[x2.o4.val, .int .i64 0]) V4)))) :
  CallV Try.prog 44 #[p0.v] V R :=
  calls_of_vc (Shp := Shp) hmixed Try.func44 (c := Try.f44.body.getD .skip) (args := [p0.v]) (by kernel_rfl)
    (.seq (.reg [⟨2, 3, false⟩, ⟨3, 2, false⟩]) (.seq (.seq (.reg [⟨7, 2, false⟩, ⟨8, 2, false⟩, ⟨9, 10, false⟩, ⟨10, 0, false⟩]) (.cond (.seq (.reg [⟨11, 10, false⟩, ⟨2, 6, false⟩, ⟨3, 2, false⟩]) .leaf) .leaf)) (.seq (.reg [⟨12, 10, false⟩, ⟨4, 3, false⟩, ⟨4, 6, false⟩]) (.seq (.seq (.reg [⟨5, 2, false⟩]) (.block (.loop Unit L_waveportref07_Energy_0 (fun _ => ()) (fun c x => { tm := spT 36 0 [(0, .val (p0.v)), (2, .own 2 0), (4, .own 4 0), (5, .val (.int .i64 x.t5))], own := spO 36 0 [(2, ⟨77, .fixed [.val (.bool x.o2.re.neg), .val (x.o2.re.mag.v), .val (.bool x.o2.im.neg), .val (x.o2.im.mag.v), .val (x.o2.under.v)]⟩), (4, ⟨77, .fixed [.val (.bool x.o4.re.neg), .val (x.o4.re.mag.v), .val (.bool x.o4.im.neg), .val (x.o4.im.mag.v), .val (x.o4.under.v)]⟩)] }) I_waveportref07_Energy_0 mu_waveportref07_Energy_0 (.seq (.seq (.reg [⟨13, 2, false⟩, ⟨14, 2, false⟩, ⟨15, 0, false⟩, ⟨16, 0, false⟩]) (.cond .leaf .leaf)) (.seq (.block (.seq (.draw [(0, ⟨19, 2, false⟩), (1, ⟨20, 2, false⟩), (2, ⟨21, 7, false⟩), (3, ⟨22, 5, false⟩), (4, ⟨23, 2, false⟩), (5, ⟨24, 2, false⟩), (6, ⟨25, 7, false⟩), (7, ⟨26, 5, false⟩), (10, ⟨6, 3, false⟩), (8, ⟨27, 10, false⟩), (9, ⟨28, 10, false⟩), (11, ⟨6, 6, false⟩)] [0, 0, 3, 7, 0, 0, 48, 112, 240, 511, 0, 2047]) (.seq (.seq (.reg [⟨29, 2, false⟩, ⟨30, 0, false⟩]) (.cond (.seq (.reg [⟨6, 4, false⟩, ⟨4, 6, false⟩]) .leaf) .leaf)) (.reg [⟨4, 4, false⟩, ⟨6, 4, false⟩, ⟨34, 10, false⟩, ⟨4, 6, false⟩])))) (.reg [⟨17, 2, false⟩, ⟨18, 0, false⟩, ⟨5, 2, false⟩])))))) (.seq (.reg [⟨4, 4, false⟩, ⟨2, 6, false⟩, ⟨3, 2, false⟩]) .leaf)))))
    (Eq.mpr (by kernel_rfl) (show CallV Try.prog 76 #[p0.v, p0.v] V fun v V1 => ∃ r1 : Bool, v = .bool r1 ∧ -- waveportref07.pair
    ((!r1) = true →
      CallV Try.prog 64 #[.int .i64 0] V1 fun v V2 => ∃ r2 : NumV, v = r2.val ∧ -- waveportref01.Whole
      R (.tuple #[r2.val, .int .i64 4]) V2) ∧
    ((!r1) = false →
      CallV Try.prog 64 #[.int .i64 0] V1 fun v V3 => ∃ r3 : NumV, v = r3.val ∧ -- waveportref01.Whole
    (∃ x1 : L_waveportref07_Energy_0, ((SV.val (p0.v) = SV.val (p0.v) ∧ SV.own 2 0 = SV.own 2 0 ∧ SV.own 4 0 = SV.own 4 0 ∧ SV.val (.int .i64 0) = SV.val (.int .i64 x1.t5) ∧ True) ∧ ((some (⟨77, .fixed [.val (.bool false), .val (.slice none 0 0), .val (.bool false), .val (.slice none 0 0), .val (.slice none 0 0)]⟩) : Option OB) = some (⟨77, .fixed [.val (.bool x1.o2.re.neg), .val (x1.o2.re.mag.v), .val (.bool x1.o2.im.neg), .val (x1.o2.im.mag.v), .val (x1.o2.under.v)]⟩) ∧ (some (⟨77, .fixed [.val (.bool r3.re.neg), .val (r3.re.mag.v), .val (.bool r3.im.neg), .val (r3.im.mag.v), .val (r3.under.v)]⟩) : Option OB) = some (⟨77, .fixed [.val (.bool x1.o4.re.neg), .val (x1.o4.re.mag.v), .val (.bool x1.o4.im.neg), .val (x1.o4.im.mag.v), .val (x1.o4.under.v)]⟩) ∧ True)) ∧ I_waveportref07_Energy_0 () x1 V3) ∧
    (∀ (x2 : L_waveportref07_Energy_0) (V4 : View), View.le V3 V4 → I_waveportref07_Energy_0 () x2 V4 →
      ((decide ((x2.t5 : Int) < (p0.len : Int))) = true →
        ((0 : Int) ≤ x2.t5 ∧ (x2.t5 : Int) < (p0.len : Nat) ∧ Option.isSome p0.a = true) ∧
      ∃ x3 : NumV, View.has V4 (Option.map (fun q => Addr.add q (Int.toNat x2.t5 * 5)) p0.a) (x3.val).cells.toList ∧ Option.isSome (Option.map (fun q => Addr.add q (Int.toNat x2.t5 * 5)) p0.a) = true ∧
      ((0 : Int) ≤ x2.t5 ∧ (x2.t5 : Int) < (p0.len : Nat) ∧ Option.isSome p0.a = true) ∧
      ∃ x4 : NumV, View.has V4 (Option.map (fun q => Addr.add q (Int.toNat x2.t5 * 5)) p0.a) (x4.val).cells.toList ∧ Option.isSome (Option.map (fun q => Addr.add q (Int.toNat x2.t5 * 5)) p0.a) = true ∧
      CallV Try.prog 79 #[x4.val] V4 fun v V5 => ∃ r4 : NumV, v = r4.val ∧ -- waveportref01.Conj
      CallV Try.prog 65 #[x3.val, r4.val] V5 fun v V6 => ∃ r5 : NumV, v = r5.val ∧ -- waveportref01.Mul
      (((x2.t5 : Int) == 0) = true →
        ∃ x5 : L_waveportref07_Energy_0, ((SV.val (p0.v) = SV.val (p0.v) ∧ SV.own 2 0 = SV.own 2 0 ∧ SV.own 4 0 = SV.own 4 0 ∧ SV.val (.int .i64 (IntKind.i64.wrap (x2.t5 + 1))) = SV.val (.int .i64 x5.t5) ∧ True) ∧ ((some (⟨77, .fixed [.val (.bool x2.o2.re.neg), .val (x2.o2.re.mag.v), .val (.bool x2.o2.im.neg), .val (x2.o2.im.mag.v), .val (x2.o2.under.v)]⟩) : Option OB) = some (⟨77, .fixed [.val (.bool x5.o2.re.neg), .val (x5.o2.re.mag.v), .val (.bool x5.o2.im.neg), .val (x5.o2.im.mag.v), .val (x5.o2.under.v)]⟩) ∧ (some (⟨77, .fixed [.val (.bool r5.re.neg), .val (r5.re.mag.v), .val (.bool r5.im.neg), .val (r5.im.mag.v), .val (r5.under.v)]⟩) : Option OB) = some (⟨77, .fixed [.val (.bool x5.o4.re.neg), .val (x5.o4.re.mag.v), .val (.bool x5.o4.im.neg), .val (x5.o4.im.mag.v), .val (x5.o4.under.v)]⟩) ∧ True)) ∧ I_waveportref07_Energy_0 () x5 V6 ∧ mu_waveportref07_Energy_0 () x5 V6 < mu_waveportref07_Energy_0 () x2 V4) ∧
      (((x2.t5 : Int) == 0) = false →
        CallV Try.prog 80 #[x2.o4.val, r5.val] V6 fun v V7 => ∃ r6 : NumV, v = r6.val ∧ -- waveportref01.Add
      ∃ x6 : L_waveportref07_Energy_0, ((SV.val (p0.v) = SV.val (p0.v) ∧ SV.own 2 0 = SV.own 2 0 ∧ SV.own 4 0 = SV.own 4 0 ∧ SV.val (.int .i64 (IntKind.i64.wrap (x2.t5 + 1))) = SV.val (.int .i64 x6.t5) ∧ True) ∧ ((some (⟨77, .fixed [.val (.bool x2.o2.re.neg), .val (x2.o2.re.mag.v), .val (.bool x2.o2.im.neg), .val (x2.o2.im.mag.v), .val (x2.o2.under.v)]⟩) : Option OB) = some (⟨77, .fixed [.val (.bool x6.o2.re.neg), .val (x6.o2.re.mag.v), .val (.bool x6.o2.im.neg), .val (x6.o2.im.mag.v), .val (x6.o2.under.v)]⟩) ∧ (some (⟨77, .fixed [.val (.bool r6.re.neg), .val (r6.re.mag.v), .val (.bool r6.im.neg), .val (r6.im.mag.v), .val (r6.under.v)]⟩) : Option OB) = some (⟨77, .fixed [.val (.bool x6.o4.re.neg), .val (x6.o4.re.mag.v), .val (.bool x6.o4.im.neg), .val (x6.o4.im.mag.v), .val (x6.o4.under.v)]⟩) ∧ True)) ∧ I_waveportref07_Energy_0 () x6 V7 ∧ mu_waveportref07_Energy_0 () x6 V7 < mu_waveportref07_Energy_0 () x2 V4)) ∧
      ((decide ((x2.t5 : Int) < (p0.len : Int))) = false →
        R (.tuple #[x2.o4.val, .int .i64 0]) V4))) from (CallV.mono h (fun _ _ _ ⟨r1, h23, h22⟩ => ⟨r1, h23, ⟨fun h21 => (CallV.mono (h22.1 h21) (fun _ _ _ ⟨r2, h2, h1⟩ => ⟨r2, h2, h1⟩)), fun h21 => (CallV.mono (h22.2 h21) (fun _ _ _ ⟨r3, h20, h19⟩ => ⟨r3, h20, ⟨⟨(L_waveportref07_Energy_0.mk 0 (NumV.mk (WhV.mk false (Sl.mk none 0 0)) (WhV.mk false (Sl.mk none 0 0)) (Sl.mk none 0 0)) r3), ⟨⟨rfl, rfl, rfl, rfl, trivial⟩, ⟨rfl, rfl, trivial⟩⟩, h19.1⟩, fun x2 V4 h17 h18 => ⟨fun h16 => ⟨((h19.2 x2 V4 h17 h18).1 h16).1, (match ((h19.2 x2 V4 h17 h18).1 h16).2 with | ⟨x3, h14, h15, h13⟩ => ⟨x3, h14, h15, ⟨h13.1, (match h13.2 with | ⟨x4, h11, h12, h10⟩ => ⟨x4, h11, h12, (CallV.mono h10 (fun _ _ _ ⟨r4, h9, h8⟩ => ⟨r4, h9, (CallV.mono h8 (fun _ _ _ ⟨r5, h7, h6⟩ => ⟨r5, h7, ⟨fun h5 => ⟨(L_waveportref07_Energy_0.mk (IntKind.i64.wrap (x2.t5 + 1)) x2.o2 r5), ⟨⟨rfl, rfl, rfl, rfl, trivial⟩, ⟨rfl, rfl, trivial⟩⟩, (h6.1 h5).1, (h6.1 h5).2⟩, fun h5 => (CallV.mono (h6.2 h5) (fun _ _ _ ⟨r6, h4, h3⟩ => ⟨r6, h4, ⟨(L_waveportref07_Energy_0.mk (IntKind.i64.wrap (x2.t5 + 1)) x2.o2 r6), ⟨⟨rfl, rfl, rfl, rfl, trivial⟩, ⟨rfl, rfl, trivial⟩⟩, h3.1, h3.2⟩⟩))⟩⟩))⟩))⟩)⟩⟩)⟩, fun h16 => ((h19.2 x2 V4 h17 h18).2 h16)⟩⟩⟩))⟩⟩))))

/-- waveport/waveportlaw07.TransformLong -/
theorem waveportlaw07_TransformLong_vc (p0 : Sl) (p1 : Sl) (p2 : Int) (p3 : Int) (V : View) (R : Value → View → Prop) 
  (h :
    ((decide (((p0.len : Int) : Int) > 8)) = true →
    (true = true →
      CallV Try.prog 23 #[] V fun v V1 => ∃ r1 : Bool, v = .bool r1 ∧ -- waveportlaw07.awake
      R (.bool r1) V1) ∧
    (true = false →
      CallV Try.prog 24 #[p0.v, .int .i64 (Int.tmod (IntKind.i64.wrap p2) 71)] V fun v V2 => ∃ r2 : Sl, v = r2.v ∧ -- waveportlaw07.repeated
    CallV Try.prog 24 #[p1.v, .int .i64 (Int.tmod (IntKind.i64.wrap p3) 71)] V2 fun v V3 => ∃ r3 : Sl, v = r3.v ∧ -- waveportlaw07.repeated
    CallV Try.prog 26 #[r2.v] V3 fun v V4 => ∃ r4 : Sl, v = r4.v ∧ -- waveportlaw01.List
    CallV Try.prog 26 #[r3.v] V4 fun v V5 => ∃ r5 : Sl, v = r5.v ∧ -- waveportlaw01.List
    CallV Try.prog 28 #[r2.v] V5 fun v V6 => ∃ r6 : Sl, v = r6.v ∧ -- waveportlaw07.refList
    CallV Try.prog 28 #[r3.v] V6 fun v V7 => ∃ r7 : Sl, v = r7.v ∧ -- waveportlaw07.refList
    CallV Try.prog 36 #[r4.v, r5.v] V7 fun v V8 => ∃ (r8 : Sl) (r9 : Int), v = .tuple #[r8.v, .int .i64 r9] ∧ -- transform.Times[num.Num]
    CallV Try.prog 37 #[r6.v, r7.v] V8 fun v V9 => ∃ (r10 : Sl) (r11 : Int), v = .tuple #[r10.v, .int .i64 r11] ∧ -- waveportref07.Times
    CallV Try.prog 22 #[r8.v, .int .i64 r9, r10.v, .int .i64 r11] V9 fun v V10 => ∃ r12 : Bool, v = .bool r12 ∧ -- waveportlaw07.answers
    ((!r12) = true →
      R (.bool false) V10) ∧
    ((!r12) = false →
      CallV Try.prog 38 #[r4.v, r5.v] V10 fun v V11 => ∃ (r13 : Sl) (r14 : Int), v = .tuple #[r13.v, .int .i64 r14] ∧ -- transform.Weigh[num.Num]
    CallV Try.prog 22 #[r13.v, .int .i64 r14, r10.v, .int .i64 r11] V11 fun v V12 => ∃ r15 : Bool, v = .bool r15 ∧ -- waveportlaw07.answers
    ((!r15) = true →
      R (.bool false) V12) ∧
    ((!r15) = false →
      CallV Try.prog 39 #[r4.v, r5.v] V12 fun v V13 => ∃ (r16 : Sl) (r17 : Int), v = .tuple #[r16.v, .int .i64 r17] ∧ -- transform.Convolve[num.Num]
    CallV Try.prog 40 #[r6.v, r7.v] V13 fun v V14 => ∃ (r18 : Sl) (r19 : Int), v = .tuple #[r18.v, .int .i64 r19] ∧ -- waveportref07.Convolve
    CallV Try.prog 22 #[r16.v, .int .i64 r17, r18.v, .int .i64 r19] V14 fun v V15 => ∃ r20 : Bool, v = .bool r20 ∧ -- waveportlaw07.answers
    ((!r20) = true →
      R (.bool false) V15) ∧
    ((!r20) = false →
      CallV Try.prog 41 #[r4.v] V15 fun v V16 => ∃ (r21 : Sl) (r22 : Int), v = .tuple #[r21.v, .int .i64 r22] ∧ -- transform.Steps[num.Num]
    CallV Try.prog 42 #[r6.v] V16 fun v V17 => ∃ (r23 : Sl) (r24 : Int), v = .tuple #[r23.v, .int .i64 r24] ∧ -- waveportref07.Steps
    CallV Try.prog 22 #[r21.v, .int .i64 r22, r23.v, .int .i64 r24] V17 fun v V18 => ∃ r25 : Bool, v = .bool r25 ∧ -- waveportlaw07.answers
    ((!r25) = true →
      R (.bool false) V18) ∧
    ((!r25) = false →
      CallV Try.prog 43 #[r4.v] V18 fun v V19 => ∃ (r26 : NumV) (r27 : Int), v = .tuple #[r26.val, .int .i64 r27] ∧ -- transform.Energy[num.Num]
    CallV Try.prog 44 #[r6.v] V19 fun v V20 => ∃ (r28 : NumV) (r29 : Int), v = .tuple #[r28.val, .int .i64 r29] ∧ -- waveportref07.Energy
    (((r27 : Int) == r29) = true →
    CallV Try.prog 35 #[r26.val, r28.val] V20 fun v V21 => ∃ r30 : Bool, v = .bool r30 ∧ -- waveportlaw01.Is
    (r30 = true →
    CallV Try.prog 23 #[] V21 fun v V22 => ∃ r31 : Bool, v = .bool r31 ∧ -- waveportlaw07.awake
    R (.bool r31) V22) ∧
    (r30 = false →
    R (.bool false) V21)) ∧
    (((r27 : Int) == r29) = false →
    (false = true →
    CallV Try.prog 23 #[] V20 fun v V23 => ∃ r32 : Bool, v = .bool r32 ∧ -- waveportlaw07.awake
    R (.bool r32) V23) ∧
    (false = false →
    R (.bool false) V20)))))))) ∧
    ((decide (((p0.len : Int) : Int) > 8)) = false →
    ((decide (((p1.len : Int) : Int) > 8)) = true →
      CallV Try.prog 23 #[] V fun v V24 => ∃ r33 : Bool, v = .bool r33 ∧ -- waveportlaw07.awake
      R (.bool r33) V24) ∧
    ((decide (((p1.len : Int) : Int) > 8)) = false →
      CallV Try.prog 24 #[p0.v, .int .i64 (Int.tmod (IntKind.i64.wrap p2) 71)] V fun v V25 => ∃ r34 : Sl, v = r34.v ∧ -- waveportlaw07.repeated
    CallV Try.prog 24 #[p1.v, .int .i64 (Int.tmod (IntKind.i64.wrap p3) 71)] V25 fun v V26 => ∃ r35 : Sl, v = r35.v ∧ -- waveportlaw07.repeated
    CallV Try.prog 26 #[r34.v] V26 fun v V27 => ∃ r36 : Sl, v = r36.v ∧ -- waveportlaw01.List
    CallV Try.prog 26 #[r35.v] V27 fun v V28 => ∃ r37 : Sl, v = r37.v ∧ -- waveportlaw01.List
    CallV Try.prog 28 #[r34.v] V28 fun v V29 => ∃ r38 : Sl, v = r38.v ∧ -- waveportlaw07.refList
    CallV Try.prog 28 #[r35.v] V29 fun v V30 => ∃ r39 : Sl, v = r39.v ∧ -- waveportlaw07.refList
    CallV Try.prog 36 #[r36.v, r37.v] V30 fun v V31 => ∃ (r40 : Sl) (r41 : Int), v = .tuple #[r40.v, .int .i64 r41] ∧ -- transform.Times[num.Num]
    CallV Try.prog 37 #[r38.v, r39.v] V31 fun v V32 => ∃ (r42 : Sl) (r43 : Int), v = .tuple #[r42.v, .int .i64 r43] ∧ -- waveportref07.Times
    CallV Try.prog 22 #[r40.v, .int .i64 r41, r42.v, .int .i64 r43] V32 fun v V33 => ∃ r44 : Bool, v = .bool r44 ∧ -- waveportlaw07.answers
    ((!r44) = true →
      R (.bool false) V33) ∧
    ((!r44) = false →
      CallV Try.prog 38 #[r36.v, r37.v] V33 fun v V34 => ∃ (r45 : Sl) (r46 : Int), v = .tuple #[r45.v, .int .i64 r46] ∧ -- transform.Weigh[num.Num]
    CallV Try.prog 22 #[r45.v, .int .i64 r46, r42.v, .int .i64 r43] V34 fun v V35 => ∃ r47 : Bool, v = .bool r47 ∧ -- waveportlaw07.answers
    ((!r47) = true →
      R (.bool false) V35) ∧
    ((!r47) = false →
      CallV Try.prog 39 #[r36.v, r37.v] V35 fun v V36 => ∃ (r48 : Sl) (r49 : Int), v = .tuple #[r48.v, .int .i64 r49] ∧ -- transform.Convolve[num.Num]
    CallV Try.prog 40 #[r38.v, r39.v] V36 fun v V37 => ∃ (r50 : Sl) (r51 : Int), v = .tuple #[r50.v, .int .i64 r51] ∧ -- waveportref07.Convolve
    CallV Try.prog 22 #[r48.v, .int .i64 r49, r50.v, .int .i64 r51] V37 fun v V38 => ∃ r52 : Bool, v = .bool r52 ∧ -- waveportlaw07.answers
    ((!r52) = true →
      R (.bool false) V38) ∧
    ((!r52) = false →
      CallV Try.prog 41 #[r36.v] V38 fun v V39 => ∃ (r53 : Sl) (r54 : Int), v = .tuple #[r53.v, .int .i64 r54] ∧ -- transform.Steps[num.Num]
    CallV Try.prog 42 #[r38.v] V39 fun v V40 => ∃ (r55 : Sl) (r56 : Int), v = .tuple #[r55.v, .int .i64 r56] ∧ -- waveportref07.Steps
    CallV Try.prog 22 #[r53.v, .int .i64 r54, r55.v, .int .i64 r56] V40 fun v V41 => ∃ r57 : Bool, v = .bool r57 ∧ -- waveportlaw07.answers
    ((!r57) = true →
      R (.bool false) V41) ∧
    ((!r57) = false →
      CallV Try.prog 43 #[r36.v] V41 fun v V42 => ∃ (r58 : NumV) (r59 : Int), v = .tuple #[r58.val, .int .i64 r59] ∧ -- transform.Energy[num.Num]
    CallV Try.prog 44 #[r38.v] V42 fun v V43 => ∃ (r60 : NumV) (r61 : Int), v = .tuple #[r60.val, .int .i64 r61] ∧ -- waveportref07.Energy
    (((r59 : Int) == r61) = true →
    CallV Try.prog 35 #[r58.val, r60.val] V43 fun v V44 => ∃ r62 : Bool, v = .bool r62 ∧ -- waveportlaw01.Is
    (r62 = true →
    CallV Try.prog 23 #[] V44 fun v V45 => ∃ r63 : Bool, v = .bool r63 ∧ -- waveportlaw07.awake
    R (.bool r63) V45) ∧
    (r62 = false →
    R (.bool false) V44)) ∧
    (((r59 : Int) == r61) = false →
    (false = true →
    CallV Try.prog 23 #[] V43 fun v V46 => ∃ r64 : Bool, v = .bool r64 ∧ -- waveportlaw07.awake
    R (.bool r64) V46) ∧
    (false = false →
    R (.bool false) V43))))))))) :
  CallV Try.prog 7 #[p0.v, p1.v, .int .u8 p2, .int .u8 p3] V R :=
  calls_of_vc (Shp := Shp) hmixed Try.func7 (c := Try.f7.body.getD .skip) (args := [p0.v, p1.v, .int .u8 p2, .int .u8 p3]) (by kernel_rfl)
    (.seq (.reg [⟨8, 2, false⟩]) (.seq (.seq (.reg [⟨23, 2, false⟩, ⟨24, 0, false⟩, ⟨25, 0, false⟩, ⟨26, 2, true⟩, ⟨27, 2, false⟩, ⟨28, 0, false⟩, ⟨29, 0, false⟩, ⟨30, 2, false⟩]) (.cond (.seq (.reg [⟨31, 10, false⟩, ⟨8, 2, false⟩]) .leaf) .leaf)) (.seq (.reg [⟨32, 2, false⟩, ⟨33, 2, false⟩, ⟨34, 0, false⟩, ⟨35, 0, false⟩, ⟨36, 10, false⟩, ⟨37, 2, false⟩, ⟨38, 2, false⟩, ⟨39, 0, false⟩, ⟨40, 0, false⟩, ⟨41, 10, false⟩, ⟨9, 2, false⟩, ⟨10, 2, false⟩]) (.seq (.reg [⟨42, 2, false⟩, ⟨43, 10, false⟩, ⟨44, 2, false⟩, ⟨45, 10, false⟩, ⟨11, 2, false⟩, ⟨12, 2, false⟩]) (.seq (.reg [⟨46, 2, false⟩, ⟨47, 10, false⟩, ⟨48, 2, false⟩, ⟨49, 10, false⟩, ⟨13, 2, false⟩, ⟨14, 2, false⟩]) (.seq (.reg [⟨51, 2, false⟩, ⟨52, 2, false⟩, ⟨53, 10, false⟩, ⟨50, 2, false⟩, ⟨54, 0, false⟩, ⟨55, 0, false⟩, ⟨15, 2, false⟩, ⟨16, 2, false⟩]) (.seq (.reg [⟨57, 2, false⟩, ⟨58, 2, false⟩, ⟨59, 10, false⟩, ⟨56, 2, false⟩, ⟨60, 0, false⟩, ⟨61, 0, false⟩, ⟨17, 2, false⟩, ⟨18, 2, false⟩]) (.seq (.seq (.reg [⟨62, 2, false⟩, ⟨63, 2, false⟩, ⟨64, 2, false⟩, ⟨65, 2, false⟩, ⟨66, 10, false⟩, ⟨67, 0, false⟩]) (.cond (.seq (.reg [⟨8, 2, false⟩]) .leaf) .leaf)) (.seq (.reg [⟨69, 2, false⟩, ⟨70, 2, false⟩, ⟨71, 10, false⟩, ⟨68, 2, false⟩, ⟨72, 0, false⟩, ⟨73, 0, false⟩, ⟨15, 2, false⟩, ⟨16, 2, false⟩]) (.seq (.seq (.reg [⟨74, 2, false⟩, ⟨75, 2, false⟩, ⟨76, 2, false⟩, ⟨77, 2, false⟩, ⟨78, 10, false⟩, ⟨79, 0, false⟩]) (.cond (.seq (.reg [⟨8, 2, false⟩]) .leaf) .leaf)) (.seq (.reg [⟨81, 2, false⟩, ⟨82, 2, false⟩, ⟨83, 10, false⟩, ⟨80, 2, false⟩, ⟨84, 0, false⟩, ⟨85, 0, false⟩, ⟨15, 2, false⟩, ⟨16, 2, false⟩]) (.seq (.reg [⟨87, 2, false⟩, ⟨88, 2, false⟩, ⟨89, 10, false⟩, ⟨86, 2, false⟩, ⟨90, 0, false⟩, ⟨91, 0, false⟩, ⟨17, 2, false⟩, ⟨18, 2, false⟩]) (.seq (.seq (.reg [⟨92, 2, false⟩, ⟨93, 2, false⟩, ⟨94, 2, false⟩, ⟨95, 2, false⟩, ⟨96, 10, false⟩, ⟨97, 0, false⟩]) (.cond (.seq (.reg [⟨8, 2, false⟩]) .leaf) .leaf)) (.seq (.reg [⟨99, 2, false⟩, ⟨100, 10, false⟩, ⟨98, 2, false⟩, ⟨101, 0, false⟩, ⟨102, 0, false⟩, ⟨15, 2, false⟩, ⟨16, 2, false⟩]) (.seq (.reg [⟨104, 2, false⟩, ⟨105, 10, false⟩, ⟨103, 2, false⟩, ⟨106, 0, false⟩, ⟨107, 0, false⟩, ⟨17, 2, false⟩, ⟨18, 2, false⟩]) (.seq (.seq (.reg [⟨108, 2, false⟩, ⟨109, 2, false⟩, ⟨110, 2, false⟩, ⟨111, 2, false⟩, ⟨112, 10, false⟩, ⟨113, 0, false⟩]) (.cond (.seq (.reg [⟨8, 2, false⟩]) .leaf) .leaf)) (.seq (.reg [⟨115, 2, false⟩, ⟨116, 10, false⟩, ⟨114, 2, false⟩, ⟨117, 0, false⟩, ⟨118, 0, false⟩, ⟨19, 3, false⟩, ⟨19, 6, false⟩, ⟨20, 2, false⟩]) (.seq (.reg [⟨120, 2, false⟩, ⟨121, 10, false⟩, ⟨119, 2, false⟩, ⟨122, 0, false⟩, ⟨123, 0, false⟩, ⟨21, 3, false⟩, ⟨21, 6, false⟩, ⟨22, 2, false⟩]) (.seq (.reg [⟨124, 2, false⟩, ⟨125, 2, false⟩, ⟨126, 0, false⟩, ⟨127, 2, true⟩, ⟨19, 4, false⟩, ⟨21, 4, false⟩, ⟨130, 10, false⟩, ⟨131, 2, false⟩, ⟨132, 2, true⟩, ⟨133, 10, false⟩, ⟨134, 2, false⟩, ⟨8, 2, false⟩]) .leaf)))))))))))))))))))
    (Eq.mpr (by kernel_rfl) h)

end Go.Proofs.Ytcapadojlaojkaa
