/- Part of the proof; it has the parts FReal FRf1 FR5 FR4 FR3 FR2. -/
import Derived.Test.YtcapadojlaojkaaPartE
set_option maxRecDepth 100000
set_option maxHeartbeats 4000000
namespace Go.Proofs.Ytcapadojlaojkaa
open Go Go.Vc Go.Proofs

structure L_transform_Extend_num_Num__0 where
  u : Unit
structure L_transform_Extend_num_Num__1 where
  t8 : Int
  o22 : List Value
/-- waveport/transform.Extend[waveport/num.Num] -/
theorem transform_Extend_num_Num__vc (p0 : Sl) (p1 : NumV) (V : View) (R : Value → View → Prop) (I_transform_Extend_num_Num__0 : Unit → L_transform_Extend_num_Num__0 → View → Prop) (I_transform_Extend_num_Num__1 : Unit → L_transform_Extend_num_Num__1 → View → Prop) (mu_transform_Extend_num_Num__1 : Unit → L_transform_Extend_num_Num__1 → View → Nat)
  (h :
    (((decide (((IntKind.i64.wrap ((p0.len : Int) + 1)) : Int) > 64)) = true →
      (true = true →
        R (.tuple #[(Sl.mk none 0 0).v, .int .i64 4]) V) ∧
      (true = false →
        I_transform_Extend_num_Num__0 () (L_transform_Extend_num_Num__0.mk ()) V)) ∧
      ((decide (((IntKind.i64.wrap ((p0.len : Int) + 1)) : Int) > 64)) = false →
      CallV Try.prog 58 #[.int .i64 (IntKind.i64.wrap (2 * (IntKind.i64.wrap ((p0.len : Int) + 1))))] V fun v V2 => ∃ r1 : Bool, v = .bool r1 ∧ -- transform.length
      ((!r1) = true →
        R (.tuple #[(Sl.mk none 0 0).v, .int .i64 4]) V2) ∧
      ((!r1) = false →
        I_transform_Extend_num_Num__0 () (L_transform_Extend_num_Num__0.mk ()) V2))) ∧
    (∀ (x1 : L_transform_Extend_num_Num__0) (V1 : View), View.le V V1 → I_transform_Extend_num_Num__0 () x1 V1 →
      ((0 : Int) ≤ (IntKind.i64.wrap (2 * (IntKind.i64.wrap ((p0.len : Int) + 1)))) ∧ ((IntKind.i64.wrap (2 * (IntKind.i64.wrap ((p0.len : Int) + 1)))) : Int) ≤ (IntKind.i64.wrap (2 * (IntKind.i64.wrap ((p0.len : Int) + 1)))) ∧ (88 : Int) * (IntKind.i64.wrap (2 * (IntKind.i64.wrap ((p0.len : Int) + 1)))) ≤ 281474976710656 ∧ ((IntKind.i64.wrap (2 * (IntKind.i64.wrap ((p0.len : Int) + 1)))) : Int) ≤ 9223372036854775807) ∧
      CallV Try.prog 78 #[.int .i64 0, .int .i64 1] V1 fun v V3 => ∃ r2 : NumV, v = r2.val ∧ -- transform.of[num.Num]
      ((0 : Int) ≤ 0 ∧ (0 : Int) < (Int.toNat (IntKind.i64.wrap (2 * (IntKind.i64.wrap ((p0.len : Int) + 1)))) : Nat)) ∧
      0 + Int.toNat 0 * 5 + 5 ≤ List.length ((List.replicate (Int.toNat (IntKind.i64.wrap (2 * (IntKind.i64.wrap ((p0.len : Int) + 1))))) [Value.bool false, Value.slice none 0 0, Value.bool false, Value.slice none 0 0, Value.slice none 0 0]).flatten) ∧
      ((0 : Int) ≤ (IntKind.i64.wrap ((p0.len : Int) + 1)) ∧ ((IntKind.i64.wrap ((p0.len : Int) + 1)) : Int) < (Int.toNat (IntKind.i64.wrap (2 * (IntKind.i64.wrap ((p0.len : Int) + 1)))) : Nat)) ∧
      0 + Int.toNat (IntKind.i64.wrap ((p0.len : Int) + 1)) * 5 + 5 ≤ List.length (setL ((List.replicate (Int.toNat (IntKind.i64.wrap (2 * (IntKind.i64.wrap ((p0.len : Int) + 1))))) [Value.bool false, Value.slice none 0 0, Value.bool false, Value.slice none 0 0, Value.slice none 0 0]).flatten) (0 + Int.toNat 0 * 5) [.bool p1.re.neg, p1.re.mag.v, .bool p1.im.neg, p1.im.mag.v, p1.under.v]) ∧
      I_transform_Extend_num_Num__1 () (L_transform_Extend_num_Num__1.mk 1 (setL (setL ((List.replicate (Int.toNat (IntKind.i64.wrap (2 * (IntKind.i64.wrap ((p0.len : Int) + 1))))) [Value.bool false, Value.slice none 0 0, Value.bool false, Value.slice none 0 0, Value.slice none 0 0]).flatten) (0 + Int.toNat 0 * 5) [.bool p1.re.neg, p1.re.mag.v, .bool p1.im.neg, p1.im.mag.v, p1.under.v]) (0 + Int.toNat (IntKind.i64.wrap ((p0.len : Int) + 1)) * 5) [.bool r2.re.neg, r2.re.mag.v, .bool r2.im.neg, r2.im.mag.v, r2.under.v])) V3 ∧
      (∀ (x5 : L_transform_Extend_num_Num__1) (V4 : View), View.le V3 V4 → I_transform_Extend_num_Num__1 () x5 V4 →
        ((decide ((x5.t8 : Int) < (IntKind.i64.wrap ((p0.len : Int) + 1)))) = true →
          ((0 : Int) ≤ (IntKind.i64.wrap (x5.t8 - 1)) ∧ ((IntKind.i64.wrap (x5.t8 - 1)) : Int) < (p0.len : Nat) ∧ Option.isSome p0.a = true) ∧
        ∃ x6 : NumV, View.has V4 (Option.map (fun q => Addr.add q (Int.toNat (IntKind.i64.wrap (x5.t8 - 1)) * 5)) p0.a) (x6.val).cells.toList ∧ Option.isSome (Option.map (fun q => Addr.add q (Int.toNat (IntKind.i64.wrap (x5.t8 - 1)) * 5)) p0.a) = true ∧
        ((0 : Int) ≤ (IntKind.i64.wrap (x5.t8 - 1)) ∧ ((IntKind.i64.wrap (x5.t8 - 1)) : Int) < (p0.len : Nat) ∧ Option.isSome p0.a = true) ∧
        ∃ x7 : NumV, View.has V4 (Option.map (fun q => Addr.add q (Int.toNat (IntKind.i64.wrap (x5.t8 - 1)) * 5)) p0.a) (x7.val).cells.toList ∧ Option.isSome (Option.map (fun q => Addr.add q (Int.toNat (IntKind.i64.wrap (x5.t8 - 1)) * 5)) p0.a) = true ∧
        CallV Try.prog 231 #[x7.val] V4 fun v V5 => ∃ r3 : NumV, v = r3.val ∧ -- (num.Num).Conj
        ((0 : Int) ≤ x5.t8 ∧ (x5.t8 : Int) < (Int.toNat (IntKind.i64.wrap (2 * (IntKind.i64.wrap ((p0.len : Int) + 1)))) : Nat)) ∧
        0 + Int.toNat x5.t8 * 5 + 5 ≤ List.length x5.o22 ∧
        ((0 : Int) ≤ (IntKind.i64.wrap ((IntKind.i64.wrap (2 * (IntKind.i64.wrap ((p0.len : Int) + 1)))) - x5.t8)) ∧ ((IntKind.i64.wrap ((IntKind.i64.wrap (2 * (IntKind.i64.wrap ((p0.len : Int) + 1)))) - x5.t8)) : Int) < (Int.toNat (IntKind.i64.wrap (2 * (IntKind.i64.wrap ((p0.len : Int) + 1)))) : Nat)) ∧
        0 + Int.toNat (IntKind.i64.wrap ((IntKind.i64.wrap (2 * (IntKind.i64.wrap ((p0.len : Int) + 1)))) - x5.t8)) * 5 + 5 ≤ List.length (setL x5.o22 (0 + Int.toNat x5.t8 * 5) [.bool x6.re.neg, x6.re.mag.v, .bool x6.im.neg, x6.im.mag.v, x6.under.v]) ∧
        I_transform_Extend_num_Num__1 () (L_transform_Extend_num_Num__1.mk (IntKind.i64.wrap (x5.t8 + 1)) (setL (setL x5.o22 (0 + Int.toNat x5.t8 * 5) [.bool x6.re.neg, x6.re.mag.v, .bool x6.im.neg, x6.im.mag.v, x6.under.v]) (0 + Int.toNat (IntKind.i64.wrap ((IntKind.i64.wrap (2 * (IntKind.i64.wrap ((p0.len : Int) + 1)))) - x5.t8)) * 5) [.bool r3.re.neg, r3.re.mag.v, .bool r3.im.neg, r3.im.mag.v, r3.under.v])) V5 ∧ mu_transform_Extend_num_Num__1 () (L_transform_Extend_num_Num__1.mk (IntKind.i64.wrap (x5.t8 + 1)) (setL (setL x5.o22 (0 + Int.toNat x5.t8 * 5) [.bool x6.re.neg, x6.re.mag.v, .bool x6.im.neg, x6.im.mag.v, x6.under.v]) (0 + Int.toNat (IntKind.i64.wrap ((IntKind.i64.wrap (2 * (IntKind.i64.wrap ((p0.len : Int) + 1)))) - x5.t8)) * 5) [.bool r3.re.neg, r3.re.mag.v, .bool r3.im.neg, r3.im.mag.v, r3.under.v])) V5 < mu_transform_Extend_num_Num__1 () x5 V4) ∧
        ((decide ((x5.t8 : Int) < (IntKind.i64.wrap ((p0.len : Int) + 1)))) = false →
          ∀ (b1 : Nat) (V6 : View), View.le V4 V6 → V6 b1 = some (List.toArray x5.o22) →
      R (.tuple #[(Sl.mk (some (Addr.mk b1 0 none)) (Int.toNat (IntKind.i64.wrap (2 * (IntKind.i64.wrap ((p0.len : Int) + 1))))) (Int.toNat (IntKind.i64.wrap (2 * (IntKind.i64.wrap ((p0.len : Int) + 1)))))).v, .int .i64 0]) V6)))) :
  CallV Try.prog 29 #[p0.v, p1.val] V R :=
  calls_of_vc (Shp := Shp) hmixed Try.func29 (c := Try.f29.body.getD .skip) (args := [p0.v, p1.val]) (by kernel_rfl)
    (.seq (.reg [⟨3, 3, false⟩, ⟨4, 2, false⟩, ⟨5, 2, false⟩]) (.seq (.reg [⟨9, 2, false⟩, ⟨10, 0, false⟩, ⟨11, 0, false⟩, ⟨6, 2, false⟩]) (.cut Unit L_transform_Extend_num_Num__0 (fun _ => ()) (fun c x => { tm := spT 57 0 [(0, .val (p0.v)), (3, .own 3 0), (6, .val (.int .i64 (IntKind.i64.wrap ((p0.len : Int) + 1))))], own := spO 57 0 [(3, ⟨67, .fixed [.val (.bool p1.re.neg), .val (p1.re.mag.v), .val (.bool p1.im.neg), .val (p1.im.mag.v), .val (p1.under.v)]⟩)] }) I_transform_Extend_num_Num__0 (.seq (.reg [⟨12, 2, false⟩, ⟨13, 0, false⟩, ⟨14, 2, true⟩, ⟨15, 2, false⟩, ⟨16, 0, false⟩, ⟨17, 10, false⟩, ⟨18, 0, false⟩, ⟨19, 2, false⟩]) (.cond (.seq (.reg [⟨4, 2, false⟩, ⟨5, 2, false⟩]) .leaf) .leaf)) (.seq (.reg [⟨20, 2, false⟩, ⟨21, 0, false⟩, ⟨22, 3, false⟩, ⟨7, 2, false⟩]) (.seq (.draw [(0, ⟨23, 2, false⟩), (1, ⟨24, 2, false⟩), (2, ⟨25, 2, false⟩), (3, ⟨3, 4, false⟩), (4, ⟨27, 10, false⟩), (5, ⟨28, 7, false⟩), (6, ⟨22, 6, false⟩), (7, ⟨29, 7, false⟩), (8, ⟨22, 6, false⟩)] [0, 0, 0, 0, 0, 25, 57, 127, 255]) (.seq (.seq (.reg [⟨8, 2, false⟩]) (.block (.loop Unit L_transform_Extend_num_Num__1 (fun _ => ()) (fun c x => { tm := spT 57 0 [(0, .val (p0.v)), (6, .val (.int .i64 (IntKind.i64.wrap ((p0.len : Int) + 1)))), (7, .osl 22 0 (Int.toNat (IntKind.i64.wrap (2 * (IntKind.i64.wrap ((p0.len : Int) + 1))))) (Int.toNat (IntKind.i64.wrap (2 * (IntKind.i64.wrap ((p0.len : Int) + 1)))))), (8, .val (.int .i64 x.t8))], own := spO 57 0 [(22, ⟨67, .dyn x.o22⟩)] }) I_transform_Extend_num_Num__1 mu_transform_Extend_num_Num__1 (.seq (.seq (.reg [⟨30, 2, false⟩, ⟨31, 2, false⟩, ⟨32, 0, false⟩]) (.cond .leaf .leaf)) (.seq (.block (.draw [(0, ⟨35, 2, false⟩), (1, ⟨36, 2, false⟩), (2, ⟨37, 2, false⟩), (3, ⟨38, 2, false⟩), (4, ⟨39, 0, false⟩), (5, ⟨40, 2, false⟩), (6, ⟨41, 0, false⟩), (7, ⟨42, 2, false⟩), (8, ⟨43, 2, false⟩), (9, ⟨44, 0, false⟩), (10, ⟨45, 7, false⟩), (11, ⟨46, 5, false⟩), (12, ⟨47, 2, false⟩), (13, ⟨48, 2, false⟩), (14, ⟨49, 0, false⟩), (15, ⟨50, 7, false⟩), (16, ⟨51, 5, false⟩), (17, ⟨52, 0, false⟩), (18, ⟨53, 10, false⟩), (19, ⟨54, 7, false⟩), (20, ⟨22, 6, false⟩), (21, ⟨55, 7, false⟩), (22, ⟨22, 6, false⟩)] [0, 0, 0, 0, 8, 0, 56, 0, 0, 256, 896, 1920, 0, 0, 8192, 28672, 61440, 126976, 258048, 524163, 1048451, 2097151, 4194303])) (.reg [⟨33, 2, false⟩, ⟨34, 0, false⟩, ⟨8, 2, false⟩])))))) (.seq (.reg [⟨56, 2, false⟩, ⟨4, 2, false⟩, ⟨5, 2, false⟩]) (.pub 22 .leaf))))))))
    (Eq.mpr (by kernel_rfl) (show (((decide (((IntKind.i64.wrap ((p0.len : Int) + 1)) : Int) > 64)) = true →
      (true = true →
        R (.tuple #[(Sl.mk none 0 0).v, .int .i64 4]) V) ∧
      (true = false →
        ∃ x2 : L_transform_Extend_num_Num__0, ((SV.val (p0.v) = SV.val (p0.v) ∧ SV.own 3 0 = SV.own 3 0 ∧ SV.val (.int .i64 (IntKind.i64.wrap ((p0.len : Int) + 1))) = SV.val (.int .i64 (IntKind.i64.wrap ((p0.len : Int) + 1))) ∧ True) ∧ ((some (⟨67, .fixed [.val (.bool p1.re.neg), .val (p1.re.mag.v), .val (.bool p1.im.neg), .val (p1.im.mag.v), .val (p1.under.v)]⟩) : Option OB) = some (⟨67, .fixed [.val (.bool p1.re.neg), .val (p1.re.mag.v), .val (.bool p1.im.neg), .val (p1.im.mag.v), .val (p1.under.v)]⟩) ∧ True)) ∧ I_transform_Extend_num_Num__0 () x2 V)) ∧
      ((decide (((IntKind.i64.wrap ((p0.len : Int) + 1)) : Int) > 64)) = false →
      CallV Try.prog 58 #[.int .i64 (IntKind.i64.wrap (2 * (IntKind.i64.wrap ((p0.len : Int) + 1))))] V fun v V2 => ∃ r1 : Bool, v = .bool r1 ∧ -- transform.length
      ((!r1) = true →
        R (.tuple #[(Sl.mk none 0 0).v, .int .i64 4]) V2) ∧
      ((!r1) = false →
        ∃ x3 : L_transform_Extend_num_Num__0, ((SV.val (p0.v) = SV.val (p0.v) ∧ SV.own 3 0 = SV.own 3 0 ∧ SV.val (.int .i64 (IntKind.i64.wrap ((p0.len : Int) + 1))) = SV.val (.int .i64 (IntKind.i64.wrap ((p0.len : Int) + 1))) ∧ True) ∧ ((some (⟨67, .fixed [.val (.bool p1.re.neg), .val (p1.re.mag.v), .val (.bool p1.im.neg), .val (p1.im.mag.v), .val (p1.under.v)]⟩) : Option OB) = some (⟨67, .fixed [.val (.bool p1.re.neg), .val (p1.re.mag.v), .val (.bool p1.im.neg), .val (p1.im.mag.v), .val (p1.under.v)]⟩) ∧ True)) ∧ I_transform_Extend_num_Num__0 () x3 V2))) ∧
    (∀ (x1 : L_transform_Extend_num_Num__0) (V1 : View), View.le V V1 → I_transform_Extend_num_Num__0 () x1 V1 →
      ((0 : Int) ≤ (IntKind.i64.wrap (2 * (IntKind.i64.wrap ((p0.len : Int) + 1)))) ∧ ((IntKind.i64.wrap (2 * (IntKind.i64.wrap ((p0.len : Int) + 1)))) : Int) ≤ (IntKind.i64.wrap (2 * (IntKind.i64.wrap ((p0.len : Int) + 1)))) ∧ (88 : Int) * (IntKind.i64.wrap (2 * (IntKind.i64.wrap ((p0.len : Int) + 1)))) ≤ 281474976710656 ∧ ((IntKind.i64.wrap (2 * (IntKind.i64.wrap ((p0.len : Int) + 1)))) : Int) ≤ 9223372036854775807) ∧
      CallV Try.prog 78 #[.int .i64 0, .int .i64 1] V1 fun v V3 => ∃ r2 : NumV, v = r2.val ∧ -- transform.of[num.Num]
      ((0 : Int) ≤ 0 ∧ (0 : Int) < (Int.toNat (IntKind.i64.wrap (2 * (IntKind.i64.wrap ((p0.len : Int) + 1)))) : Nat)) ∧
      0 + Int.toNat 0 * 5 + 5 ≤ List.length ((List.replicate (Int.toNat (IntKind.i64.wrap (2 * (IntKind.i64.wrap ((p0.len : Int) + 1))))) [Value.bool false, Value.slice none 0 0, Value.bool false, Value.slice none 0 0, Value.slice none 0 0]).flatten) ∧
      ((0 : Int) ≤ (IntKind.i64.wrap ((p0.len : Int) + 1)) ∧ ((IntKind.i64.wrap ((p0.len : Int) + 1)) : Int) < (Int.toNat (IntKind.i64.wrap (2 * (IntKind.i64.wrap ((p0.len : Int) + 1)))) : Nat)) ∧
      0 + Int.toNat (IntKind.i64.wrap ((p0.len : Int) + 1)) * 5 + 5 ≤ List.length (setL ((List.replicate (Int.toNat (IntKind.i64.wrap (2 * (IntKind.i64.wrap ((p0.len : Int) + 1))))) [Value.bool false, Value.slice none 0 0, Value.bool false, Value.slice none 0 0, Value.slice none 0 0]).flatten) (0 + Int.toNat 0 * 5) [.bool p1.re.neg, p1.re.mag.v, .bool p1.im.neg, p1.im.mag.v, p1.under.v]) ∧
      (∃ x4 : L_transform_Extend_num_Num__1, ((SV.val (p0.v) = SV.val (p0.v) ∧ SV.val (.int .i64 (IntKind.i64.wrap ((p0.len : Int) + 1))) = SV.val (.int .i64 (IntKind.i64.wrap ((p0.len : Int) + 1))) ∧ SV.osl 22 0 (Int.toNat (IntKind.i64.wrap (2 * (IntKind.i64.wrap ((p0.len : Int) + 1))))) (Int.toNat (IntKind.i64.wrap (2 * (IntKind.i64.wrap ((p0.len : Int) + 1))))) = SV.osl 22 0 (Int.toNat (IntKind.i64.wrap (2 * (IntKind.i64.wrap ((p0.len : Int) + 1))))) (Int.toNat (IntKind.i64.wrap (2 * (IntKind.i64.wrap ((p0.len : Int) + 1))))) ∧ SV.val (.int .i64 1) = SV.val (.int .i64 x4.t8) ∧ True) ∧ ((some (⟨67, .dyn (setL (setL ((List.replicate (Int.toNat (IntKind.i64.wrap (2 * (IntKind.i64.wrap ((p0.len : Int) + 1))))) [Value.bool false, Value.slice none 0 0, Value.bool false, Value.slice none 0 0, Value.slice none 0 0]).flatten) (0 + Int.toNat 0 * 5) [.bool p1.re.neg, p1.re.mag.v, .bool p1.im.neg, p1.im.mag.v, p1.under.v]) (0 + Int.toNat (IntKind.i64.wrap ((p0.len : Int) + 1)) * 5) [.bool r2.re.neg, r2.re.mag.v, .bool r2.im.neg, r2.im.mag.v, r2.under.v])⟩) : Option OB) = some (⟨67, .dyn x4.o22⟩) ∧ True)) ∧ I_transform_Extend_num_Num__1 () x4 V3) ∧
      (∀ (x5 : L_transform_Extend_num_Num__1) (V4 : View), View.le V3 V4 → I_transform_Extend_num_Num__1 () x5 V4 →
        ((decide ((x5.t8 : Int) < (IntKind.i64.wrap ((p0.len : Int) + 1)))) = true →
          ((0 : Int) ≤ (IntKind.i64.wrap (x5.t8 - 1)) ∧ ((IntKind.i64.wrap (x5.t8 - 1)) : Int) < (p0.len : Nat) ∧ Option.isSome p0.a = true) ∧
        ∃ x6 : NumV, View.has V4 (Option.map (fun q => Addr.add q (Int.toNat (IntKind.i64.wrap (x5.t8 - 1)) * 5)) p0.a) (x6.val).cells.toList ∧ Option.isSome (Option.map (fun q => Addr.add q (Int.toNat (IntKind.i64.wrap (x5.t8 - 1)) * 5)) p0.a) = true ∧
        ((0 : Int) ≤ (IntKind.i64.wrap (x5.t8 - 1)) ∧ ((IntKind.i64.wrap (x5.t8 - 1)) : Int) < (p0.len : Nat) ∧ Option.isSome p0.a = true) ∧
        ∃ x7 : NumV, View.has V4 (Option.map (fun q => Addr.add q (Int.toNat (IntKind.i64.wrap (x5.t8 - 1)) * 5)) p0.a) (x7.val).cells.toList ∧ Option.isSome (Option.map (fun q => Addr.add q (Int.toNat (IntKind.i64.wrap (x5.t8 - 1)) * 5)) p0.a) = true ∧
        CallV Try.prog 231 #[x7.val] V4 fun v V5 => ∃ r3 : NumV, v = r3.val ∧ -- (num.Num).Conj
        ((0 : Int) ≤ x5.t8 ∧ (x5.t8 : Int) < (Int.toNat (IntKind.i64.wrap (2 * (IntKind.i64.wrap ((p0.len : Int) + 1)))) : Nat)) ∧
        0 + Int.toNat x5.t8 * 5 + 5 ≤ List.length x5.o22 ∧
        ((0 : Int) ≤ (IntKind.i64.wrap ((IntKind.i64.wrap (2 * (IntKind.i64.wrap ((p0.len : Int) + 1)))) - x5.t8)) ∧ ((IntKind.i64.wrap ((IntKind.i64.wrap (2 * (IntKind.i64.wrap ((p0.len : Int) + 1)))) - x5.t8)) : Int) < (Int.toNat (IntKind.i64.wrap (2 * (IntKind.i64.wrap ((p0.len : Int) + 1)))) : Nat)) ∧
        0 + Int.toNat (IntKind.i64.wrap ((IntKind.i64.wrap (2 * (IntKind.i64.wrap ((p0.len : Int) + 1)))) - x5.t8)) * 5 + 5 ≤ List.length (setL x5.o22 (0 + Int.toNat x5.t8 * 5) [.bool x6.re.neg, x6.re.mag.v, .bool x6.im.neg, x6.im.mag.v, x6.under.v]) ∧
        ∃ x8 : L_transform_Extend_num_Num__1, ((SV.val (p0.v) = SV.val (p0.v) ∧ SV.val (.int .i64 (IntKind.i64.wrap ((p0.len : Int) + 1))) = SV.val (.int .i64 (IntKind.i64.wrap ((p0.len : Int) + 1))) ∧ SV.osl 22 0 (Int.toNat (IntKind.i64.wrap (2 * (IntKind.i64.wrap ((p0.len : Int) + 1))))) (Int.toNat (IntKind.i64.wrap (2 * (IntKind.i64.wrap ((p0.len : Int) + 1))))) = SV.osl 22 0 (Int.toNat (IntKind.i64.wrap (2 * (IntKind.i64.wrap ((p0.len : Int) + 1))))) (Int.toNat (IntKind.i64.wrap (2 * (IntKind.i64.wrap ((p0.len : Int) + 1))))) ∧ SV.val (.int .i64 (IntKind.i64.wrap (x5.t8 + 1))) = SV.val (.int .i64 x8.t8) ∧ True) ∧ ((some (⟨67, .dyn (setL (setL x5.o22 (0 + Int.toNat x5.t8 * 5) [.bool x6.re.neg, x6.re.mag.v, .bool x6.im.neg, x6.im.mag.v, x6.under.v]) (0 + Int.toNat (IntKind.i64.wrap ((IntKind.i64.wrap (2 * (IntKind.i64.wrap ((p0.len : Int) + 1)))) - x5.t8)) * 5) [.bool r3.re.neg, r3.re.mag.v, .bool r3.im.neg, r3.im.mag.v, r3.under.v])⟩) : Option OB) = some (⟨67, .dyn x8.o22⟩) ∧ True)) ∧ I_transform_Extend_num_Num__1 () x8 V5 ∧ mu_transform_Extend_num_Num__1 () x8 V5 < mu_transform_Extend_num_Num__1 () x5 V4) ∧
        ((decide ((x5.t8 : Int) < (IntKind.i64.wrap ((p0.len : Int) + 1)))) = false →
          ∀ (b1 : Nat) (V6 : View), View.le V4 V6 → V6 b1 = some (List.toArray x5.o22) →
      R (.tuple #[(Sl.mk (some (Addr.mk b1 0 none)) (Int.toNat (IntKind.i64.wrap (2 * (IntKind.i64.wrap ((p0.len : Int) + 1))))) (Int.toNat (IntKind.i64.wrap (2 * (IntKind.i64.wrap ((p0.len : Int) + 1)))))).v, .int .i64 0]) V6))) from ⟨⟨fun h5 => ⟨fun h1 => ((h.1.1 h5).1 h1), fun h1 => ⟨(L_transform_Extend_num_Num__0.mk ()), ⟨⟨rfl, rfl, rfl, trivial⟩, ⟨rfl, trivial⟩⟩, ((h.1.1 h5).2 h1)⟩⟩, fun h5 => (CallV.mono (h.1.2 h5) (fun _ _ _ ⟨r1, h4, h3⟩ => ⟨r1, h4, ⟨fun h2 => (h3.1 h2), fun h2 => ⟨(L_transform_Extend_num_Num__0.mk ()), ⟨⟨rfl, rfl, rfl, trivial⟩, ⟨rfl, trivial⟩⟩, (h3.2 h2)⟩⟩⟩))⟩, fun x1 V1 h21 h22 => ⟨(h.2 x1 V1 h21 h22).1, (CallV.mono (h.2 x1 V1 h21 h22).2 (fun _ _ _ ⟨r2, h20, h19⟩ => ⟨r2, h20, ⟨h19.1, ⟨h19.2.1, ⟨h19.2.2.1, ⟨h19.2.2.2.1, ⟨⟨(L_transform_Extend_num_Num__1.mk 1 (setL (setL ((List.replicate (Int.toNat (IntKind.i64.wrap (2 * (IntKind.i64.wrap ((p0.len : Int) + 1))))) [Value.bool false, Value.slice none 0 0, Value.bool false, Value.slice none 0 0, Value.slice none 0 0]).flatten) (0 + Int.toNat 0 * 5) [.bool p1.re.neg, p1.re.mag.v, .bool p1.im.neg, p1.im.mag.v, p1.under.v]) (0 + Int.toNat (IntKind.i64.wrap ((p0.len : Int) + 1)) * 5) [.bool r2.re.neg, r2.re.mag.v, .bool r2.im.neg, r2.im.mag.v, r2.under.v])), ⟨⟨rfl, rfl, rfl, rfl, trivial⟩, ⟨rfl, trivial⟩⟩, h19.2.2.2.2.1⟩, fun x5 V4 h17 h18 => ⟨fun h16 => ⟨((h19.2.2.2.2.2 x5 V4 h17 h18).1 h16).1, (match ((h19.2.2.2.2.2 x5 V4 h17 h18).1 h16).2 with | ⟨x6, h12, h13, h11⟩ => ⟨x6, h12, h13, ⟨h11.1, (match h11.2 with | ⟨x7, h9, h10, h8⟩ => ⟨x7, h9, h10, (CallV.mono h8 (fun _ _ _ ⟨r3, h7, h6⟩ => ⟨r3, h7, ⟨h6.1, ⟨h6.2.1, ⟨h6.2.2.1, ⟨h6.2.2.2.1, ⟨(L_transform_Extend_num_Num__1.mk (IntKind.i64.wrap (x5.t8 + 1)) (setL (setL x5.o22 (0 + Int.toNat x5.t8 * 5) [.bool x6.re.neg, x6.re.mag.v, .bool x6.im.neg, x6.im.mag.v, x6.under.v]) (0 + Int.toNat (IntKind.i64.wrap ((IntKind.i64.wrap (2 * (IntKind.i64.wrap ((p0.len : Int) + 1)))) - x5.t8)) * 5) [.bool r3.re.neg, r3.re.mag.v, .bool r3.im.neg, r3.im.mag.v, r3.under.v])), ⟨⟨rfl, rfl, rfl, rfl, trivial⟩, ⟨rfl, trivial⟩⟩, h6.2.2.2.2.1, h6.2.2.2.2.2⟩⟩⟩⟩⟩⟩))⟩)⟩⟩)⟩, fun h16 => (fun b1 V6 h14 h15 => (((h19.2.2.2.2.2 x5 V4 h17 h18).2 h16) b1 V6 h14 h15))⟩⟩⟩⟩⟩⟩⟩))⟩⟩))

end Go.Proofs.Ytcapadojlaojkaa

set_option maxRecDepth 100000
set_option maxHeartbeats 4000000
namespace Go.Proofs.Ytcapadojlaojkaa
open Go Go.Vc Go.Proofs

structure L_waveportref07_Length_0 where
  t3 : Int
/-- waveport/waveportref07.Length -/
theorem waveportref07_Length_vc (p0 : Int) (V : View) (R : Value → View → Prop) (I_waveportref07_Length_0 : Unit → L_waveportref07_Length_0 → View → Prop) (mu_waveportref07_Length_0 : Unit → L_waveportref07_Length_0 → View → Nat)
  (h :
    I_waveportref07_Length_0 () (L_waveportref07_Length_0.mk 1) V ∧
    (∀ (x2 : L_waveportref07_Length_0) (V1 : View), View.le V V1 → I_waveportref07_Length_0 () x2 V1 →
      ((decide ((x2.t3 : Int) ≤ 64)) = true →
        (((p0 : Int) == x2.t3) = true →
        R (.bool true) V1) ∧
      (((p0 : Int) == x2.t3) = false →
        I_waveportref07_Length_0 () (L_waveportref07_Length_0.mk (IntKind.i64.wrap (x2.t3 * 2))) V1 ∧ mu_waveportref07_Length_0 () (L_waveportref07_Length_0.mk (IntKind.i64.wrap (x2.t3 * 2))) V1 < mu_waveportref07_Length_0 () x2 V1)) ∧
      ((decide ((x2.t3 : Int) ≤ 64)) = false →
        R (.bool false) V1))) :
  CallV Try.prog 62 #[.int .i64 p0] V R :=
  calls_of_vc (Shp := Shp) hmixed Try.func62 (c := Try.f62.body.getD .skip) (args := [.int .i64 p0]) (by kernel_rfl)
    (.seq (.reg [⟨2, 2, false⟩]) (.seq (.seq (.reg [⟨3, 2, false⟩]) (.block (.loop Unit L_waveportref07_Length_0 (fun _ => ()) (fun c x => { tm := spT 11 0 [(0, .val (.int .i64 p0)), (3, .val (.int .i64 x.t3))], own := spO 11 0 [] }) I_waveportref07_Length_0 mu_waveportref07_Length_0 (.seq (.seq (.reg [⟨4, 2, false⟩, ⟨5, 0, false⟩]) (.cond .leaf .leaf)) (.seq (.block (.seq (.reg [⟨8, 2, false⟩, ⟨9, 2, false⟩, ⟨10, 0, false⟩]) (.cond (.seq (.reg [⟨2, 2, false⟩]) .leaf) .leaf))) (.reg [⟨6, 2, false⟩, ⟨7, 0, false⟩, ⟨3, 2, false⟩])))))) (.seq (.reg [⟨2, 2, false⟩]) .leaf)))
    (Eq.mpr (by kernel_rfl) (show (∃ x1 : L_waveportref07_Length_0, ((SV.val (.int .i64 p0) = SV.val (.int .i64 p0) ∧ SV.val (.int .i64 1) = SV.val (.int .i64 x1.t3) ∧ True) ∧ (True)) ∧ I_waveportref07_Length_0 () x1 V) ∧
    (∀ (x2 : L_waveportref07_Length_0) (V1 : View), View.le V V1 → I_waveportref07_Length_0 () x2 V1 →
      ((decide ((x2.t3 : Int) ≤ 64)) = true →
        (((p0 : Int) == x2.t3) = true →
        R (.bool true) V1) ∧
      (((p0 : Int) == x2.t3) = false →
        ∃ x3 : L_waveportref07_Length_0, ((SV.val (.int .i64 p0) = SV.val (.int .i64 p0) ∧ SV.val (.int .i64 (IntKind.i64.wrap (x2.t3 * 2))) = SV.val (.int .i64 x3.t3) ∧ True) ∧ (True)) ∧ I_waveportref07_Length_0 () x3 V1 ∧ mu_waveportref07_Length_0 () x3 V1 < mu_waveportref07_Length_0 () x2 V1)) ∧
      ((decide ((x2.t3 : Int) ≤ 64)) = false →
        R (.bool false) V1)) from ⟨⟨(L_waveportref07_Length_0.mk 1), ⟨⟨rfl, rfl, trivial⟩, trivial⟩, h.1⟩, fun x2 V1 h3 h4 => ⟨fun h2 => ⟨fun h1 => (((h.2 x2 V1 h3 h4).1 h2).1 h1), fun h1 => ⟨(L_waveportref07_Length_0.mk (IntKind.i64.wrap (x2.t3 * 2))), ⟨⟨rfl, rfl, trivial⟩, trivial⟩, (((h.2 x2 V1 h3 h4).1 h2).2 h1).1, (((h.2 x2 V1 h3 h4).1 h2).2 h1).2⟩⟩, fun h2 => ((h.2 x2 V1 h3 h4).2 h2)⟩⟩))

structure L_waveportlaw07_refList_0 where
  t11 : Int
  o8 : List Value
/-- waveport/waveportlaw07.refList -/
theorem waveportlaw07_refList_vc (p0 : Sl) (V : View) (R : Value → View → Prop) (I_waveportlaw07_refList_0 : Unit → L_waveportlaw07_refList_0 → View → Prop) (mu_waveportlaw07_refList_0 : Unit → L_waveportlaw07_refList_0 → View → Nat)
  (h :
    ((0 : Int) ≤ (p0.len : Int) ∧ ((p0.len : Int) : Int) ≤ (p0.len : Int) ∧ (88 : Int) * (p0.len : Int) ≤ 281474976710656 ∧ ((p0.len : Int) : Int) ≤ 9223372036854775807) ∧
    I_waveportlaw07_refList_0 () (L_waveportlaw07_refList_0.mk 0 ((List.replicate (Int.toNat (p0.len : Int)) [Value.bool false, Value.slice none 0 0, Value.bool false, Value.slice none 0 0, Value.slice none 0 0]).flatten)) V ∧
    (∀ (x2 : L_waveportlaw07_refList_0) (V1 : View), View.le V V1 → I_waveportlaw07_refList_0 () x2 V1 →
      ((decide ((x2.t11 : Int) < (p0.len : Int))) = true →
        ((0 : Int) ≤ x2.t11 ∧ (x2.t11 : Int) < (p0.len : Nat) ∧ Option.isSome p0.a = true) ∧
      ∃ x3 : RatV, View.has V1 (Option.map (fun q => Addr.add q (Int.toNat x2.t11 * 3)) p0.a) (x3.val).cells.toList ∧ Option.isSome (Option.map (fun q => Addr.add q (Int.toNat x2.t11 * 3)) p0.a) = true ∧
      CallV Try.prog 32 #[x3.val] V1 fun v V2 => ∃ r1 : NumV, v = r1.val ∧ -- waveportref01.Of
      ((0 : Int) ≤ x2.t11 ∧ (x2.t11 : Int) < (Int.toNat (p0.len : Int) : Nat)) ∧
      0 + Int.toNat x2.t11 * 5 + 5 ≤ List.length x2.o8 ∧
      I_waveportlaw07_refList_0 () (L_waveportlaw07_refList_0.mk (IntKind.i64.wrap (x2.t11 + 1)) (setL x2.o8 (0 + Int.toNat x2.t11 * 5) [.bool r1.re.neg, r1.re.mag.v, .bool r1.im.neg, r1.im.mag.v, r1.under.v])) V2 ∧ mu_waveportlaw07_refList_0 () (L_waveportlaw07_refList_0.mk (IntKind.i64.wrap (x2.t11 + 1)) (setL x2.o8 (0 + Int.toNat x2.t11 * 5) [.bool r1.re.neg, r1.re.mag.v, .bool r1.im.neg, r1.im.mag.v, r1.under.v])) V2 < mu_waveportlaw07_refList_0 () x2 V1) ∧
      ((decide ((x2.t11 : Int) < (p0.len : Int))) = false →
        ∀ (b1 : Nat) (V3 : View), View.le V1 V3 → V3 b1 = some (List.toArray x2.o8) →
    R ((Sl.mk (some (Addr.mk b1 0 none)) (Int.toNat (p0.len : Int)) (Int.toNat (p0.len : Int))).v) V3))) :
  CallV Try.prog 28 #[p0.v] V R :=
  calls_of_vc (Shp := Shp) hmixed Try.func28 (c := Try.f28.body.getD .skip) (args := [p0.v]) (by kernel_rfl)
    (.seq (.reg [⟨2, 2, false⟩]) (.seq (.reg [⟨6, 2, false⟩, ⟨7, 0, false⟩, ⟨8, 3, false⟩, ⟨3, 2, false⟩]) (.seq (.seq (.reg [⟨9, 2, false⟩, ⟨10, 0, false⟩, ⟨11, 2, false⟩]) (.block (.loop Unit L_waveportlaw07_refList_0 (fun _ => ()) (fun c x => { tm := spT 23 0 [(3, .osl 8 0 (Int.toNat (p0.len : Int)) (Int.toNat (p0.len : Int))), (9, .val (p0.v)), (10, .val (.int .i64 (p0.len : Int))), (11, .val (.int .i64 x.t11))], own := spO 23 0 [(8, ⟨77, .dyn x.o8⟩)] }) I_waveportlaw07_refList_0 mu_waveportlaw07_refList_0 (.seq (.reg [⟨12, 0, false⟩]) (.seq (.cond .leaf .leaf) (.seq (.block (.seq (.reg [⟨13, 2, false⟩, ⟨14, 7, false⟩, ⟨15, 5, false⟩, ⟨5, 3, false⟩, ⟨4, 2, false⟩, ⟨5, 6, false⟩]) (.reg [⟨16, 2, false⟩, ⟨17, 2, false⟩, ⟨5, 4, false⟩, ⟨19, 10, false⟩, ⟨20, 7, false⟩, ⟨8, 6, false⟩]))) (.reg [⟨21, 0, false⟩, ⟨11, 2, false⟩]))))))) (.seq (.reg [⟨22, 2, false⟩, ⟨2, 2, false⟩]) (.pub 8 .leaf)))))
    (Eq.mpr (by kernel_rfl) (show ((0 : Int) ≤ (p0.len : Int) ∧ ((p0.len : Int) : Int) ≤ (p0.len : Int) ∧ (88 : Int) * (p0.len : Int) ≤ 281474976710656 ∧ ((p0.len : Int) : Int) ≤ 9223372036854775807) ∧
    (∃ x1 : L_waveportlaw07_refList_0, ((SV.osl 8 0 (Int.toNat (p0.len : Int)) (Int.toNat (p0.len : Int)) = SV.osl 8 0 (Int.toNat (p0.len : Int)) (Int.toNat (p0.len : Int)) ∧ SV.val (p0.v) = SV.val (p0.v) ∧ SV.val (.int .i64 (p0.len : Int)) = SV.val (.int .i64 (p0.len : Int)) ∧ SV.val (.int .i64 0) = SV.val (.int .i64 x1.t11) ∧ True) ∧ ((some (⟨77, .dyn ((List.replicate (Int.toNat (p0.len : Int)) [Value.bool false, Value.slice none 0 0, Value.bool false, Value.slice none 0 0, Value.slice none 0 0]).flatten)⟩) : Option OB) = some (⟨77, .dyn x1.o8⟩) ∧ True)) ∧ I_waveportlaw07_refList_0 () x1 V) ∧
    (∀ (x2 : L_waveportlaw07_refList_0) (V1 : View), View.le V V1 → I_waveportlaw07_refList_0 () x2 V1 →
      ((decide ((x2.t11 : Int) < (p0.len : Int))) = true →
        ((0 : Int) ≤ x2.t11 ∧ (x2.t11 : Int) < (p0.len : Nat) ∧ Option.isSome p0.a = true) ∧
      ∃ x3 : RatV, View.has V1 (Option.map (fun q => Addr.add q (Int.toNat x2.t11 * 3)) p0.a) (x3.val).cells.toList ∧ Option.isSome (Option.map (fun q => Addr.add q (Int.toNat x2.t11 * 3)) p0.a) = true ∧
      CallV Try.prog 32 #[x3.val] V1 fun v V2 => ∃ r1 : NumV, v = r1.val ∧ -- waveportref01.Of
      ((0 : Int) ≤ x2.t11 ∧ (x2.t11 : Int) < (Int.toNat (p0.len : Int) : Nat)) ∧
      0 + Int.toNat x2.t11 * 5 + 5 ≤ List.length x2.o8 ∧
      ∃ x4 : L_waveportlaw07_refList_0, ((SV.osl 8 0 (Int.toNat (p0.len : Int)) (Int.toNat (p0.len : Int)) = SV.osl 8 0 (Int.toNat (p0.len : Int)) (Int.toNat (p0.len : Int)) ∧ SV.val (p0.v) = SV.val (p0.v) ∧ SV.val (.int .i64 (p0.len : Int)) = SV.val (.int .i64 (p0.len : Int)) ∧ SV.val (.int .i64 (IntKind.i64.wrap (x2.t11 + 1))) = SV.val (.int .i64 x4.t11) ∧ True) ∧ ((some (⟨77, .dyn (setL x2.o8 (0 + Int.toNat x2.t11 * 5) [.bool r1.re.neg, r1.re.mag.v, .bool r1.im.neg, r1.im.mag.v, r1.under.v])⟩) : Option OB) = some (⟨77, .dyn x4.o8⟩) ∧ True)) ∧ I_waveportlaw07_refList_0 () x4 V2 ∧ mu_waveportlaw07_refList_0 () x4 V2 < mu_waveportlaw07_refList_0 () x2 V1) ∧
      ((decide ((x2.t11 : Int) < (p0.len : Int))) = false →
        ∀ (b1 : Nat) (V3 : View), View.le V1 V3 → V3 b1 = some (List.toArray x2.o8) →
    R ((Sl.mk (some (Addr.mk b1 0 none)) (Int.toNat (p0.len : Int)) (Int.toNat (p0.len : Int))).v) V3)) from ⟨h.1, ⟨⟨(L_waveportlaw07_refList_0.mk 0 ((List.replicate (Int.toNat (p0.len : Int)) [Value.bool false, Value.slice none 0 0, Value.bool false, Value.slice none 0 0, Value.slice none 0 0]).flatten)), ⟨⟨rfl, rfl, rfl, rfl, trivial⟩, ⟨rfl, trivial⟩⟩, h.2.1⟩, fun x2 V1 h9 h10 => ⟨fun h8 => ⟨((h.2.2 x2 V1 h9 h10).1 h8).1, (match ((h.2.2 x2 V1 h9 h10).1 h8).2 with | ⟨x3, h4, h5, h3⟩ => ⟨x3, h4, h5, (CallV.mono h3 (fun _ _ _ ⟨r1, h2, h1⟩ => ⟨r1, h2, ⟨h1.1, ⟨h1.2.1, ⟨(L_waveportlaw07_refList_0.mk (IntKind.i64.wrap (x2.t11 + 1)) (setL x2.o8 (0 + Int.toNat x2.t11 * 5) [.bool r1.re.neg, r1.re.mag.v, .bool r1.im.neg, r1.im.mag.v, r1.under.v])), ⟨⟨rfl, rfl, rfl, rfl, trivial⟩, ⟨rfl, trivial⟩⟩, h1.2.2.1, h1.2.2.2⟩⟩⟩⟩))⟩)⟩, fun h8 => (fun b1 V3 h6 h7 => (((h.2.2 x2 V1 h9 h10).2 h8) b1 V3 h6 h7))⟩⟩⟩))

end Go.Proofs.Ytcapadojlaojkaa

set_option maxRecDepth 100000
set_option maxHeartbeats 4000000
namespace Go.Proofs.Ytcapadojlaojkaa
open Go Go.Vc Go.Proofs

structure L_ref1_NatText_0 where
  t0 : Sl
  t3l : Nat
  t3c : Nat
  o3 : List Value
structure L_ref1_NatText_1 where
  t3l : Nat
  t3c : Nat
  t5 : Int
  t6 : Int
  o3 : List Value
structure C_ref1_NatText_1 where
  t4 : Sl
structure L_ref1_NatText_2 where
  t7 : Int
  t8 : Int
  o3 : List Value
structure C_ref1_NatText_2 where
  t3l : Nat
  t3c : Nat
/-- waveport/waveportref01.NatText -/
theorem ref1_NatText_vc (p0 : Sl) (V : View) (R : Value → View → Prop) (I_ref1_NatText_0 : Unit → L_ref1_NatText_0 → View → Prop) (mu_ref1_NatText_0 : Unit → L_ref1_NatText_0 → View → Nat) (I_ref1_NatText_1 : C_ref1_NatText_1 → L_ref1_NatText_1 → View → Prop) (mu_ref1_NatText_1 : C_ref1_NatText_1 → L_ref1_NatText_1 → View → Nat) (I_ref1_NatText_2 : C_ref1_NatText_2 → L_ref1_NatText_2 → View → Prop) (mu_ref1_NatText_2 : C_ref1_NatText_2 → L_ref1_NatText_2 → View → Nat)
  (h :
    ((((p0.len : Int) : Int) == 0) = true →
      R (.string (ByteArray.mk #[48])) V) ∧
    ((((p0.len : Int) : Int) == 0) = false →
      I_ref1_NatText_0 () (L_ref1_NatText_0.mk p0 0 0 ([] : List Value)) V ∧
    (∀ (x2 : L_ref1_NatText_0) (V1 : View), View.le V V1 → I_ref1_NatText_0 () x2 V1 →
      ((decide (((x2.t0.len : Int) : Int) > 0)) = true →
        CallV Try.prog 163 #[x2.t0.v, .int .u32 1000000000] V1 fun v V2 => ∃ (r1 : Sl) (r2 : Int), v = .tuple #[r1.v, .int .u32 r2] ∧ -- waveportref01.natDigit
      I_ref1_NatText_1 (C_ref1_NatText_1.mk r1) (L_ref1_NatText_1.mk x2.t3l x2.t3c r2 0 x2.o3) V2 ∧
      (∀ (x4 : L_ref1_NatText_1) (V3 : View), View.le V2 V3 → I_ref1_NatText_1 (C_ref1_NatText_1.mk r1) x4 V3 →
        ((decide ((x4.t6 : Int) < 9)) = true →
        ((decide ((x4.t5 : Int) > 0)) = true →
        (true = true →
          ∀ (b1 : Nat) (V4 : View), View.le V3 V4 → View.Fin V4 → V4 b1 = some #[.int .u8 (IntKind.u8.wrap (IntKind.u32.wrap (48 + (Int.tmod x4.t5 10))))] →
        ∃ (l1 : List Value) (l2 : List Value), LstOk 1 x4.t3l x4.t3c x4.o3 l1 ∧ View.has V4 (some (Addr.mk b1 0 none)) l2 ∧ List.length l2 = 1 * 1 ∧ (∀ v ∈ l2, Value.oneCell' v = true) ∧ x4.t3l + 1 ≤ maxLen ∧ (x4.t3l + 1) * 1 ≤ 140737488355328 ∧
        ∀ (c1 : Nat) (l3 : List Value), LstOk 1 (x4.t3l + 1) c1 l3 (l1 ++ l2) →
        I_ref1_NatText_1 (C_ref1_NatText_1.mk r1) (L_ref1_NatText_1.mk (x4.t3l + 1) c1 (IntKind.u32.wrap (Int.tdiv x4.t5 10)) (IntKind.i64.wrap (x4.t6 + 1)) l3) V4 ∧ mu_ref1_NatText_1 (C_ref1_NatText_1.mk r1) (L_ref1_NatText_1.mk (x4.t3l + 1) c1 (IntKind.u32.wrap (Int.tdiv x4.t5 10)) (IntKind.i64.wrap (x4.t6 + 1)) l3) V4 < mu_ref1_NatText_1 (C_ref1_NatText_1.mk r1) x4 V3) ∧
        (true = false →
          I_ref1_NatText_0 () (L_ref1_NatText_0.mk r1 x4.t3l x4.t3c x4.o3) V3 ∧ mu_ref1_NatText_0 () (L_ref1_NatText_0.mk r1 x4.t3l x4.t3c x4.o3) V3 < mu_ref1_NatText_0 () x2 V1)) ∧
        ((decide ((x4.t5 : Int) > 0)) = false →
        ((decide (((r1.len : Int) : Int) > 0)) = true →
          ∀ (b2 : Nat) (V5 : View), View.le V3 V5 → View.Fin V5 → V5 b2 = some #[.int .u8 (IntKind.u8.wrap (IntKind.u32.wrap (48 + (Int.tmod x4.t5 10))))] →
        ∃ (l4 : List Value) (l5 : List Value), LstOk 1 x4.t3l x4.t3c x4.o3 l4 ∧ View.has V5 (some (Addr.mk b2 0 none)) l5 ∧ List.length l5 = 1 * 1 ∧ (∀ v ∈ l5, Value.oneCell' v = true) ∧ x4.t3l + 1 ≤ maxLen ∧ (x4.t3l + 1) * 1 ≤ 140737488355328 ∧
        ∀ (c2 : Nat) (l6 : List Value), LstOk 1 (x4.t3l + 1) c2 l6 (l4 ++ l5) →
        I_ref1_NatText_1 (C_ref1_NatText_1.mk r1) (L_ref1_NatText_1.mk (x4.t3l + 1) c2 (IntKind.u32.wrap (Int.tdiv x4.t5 10)) (IntKind.i64.wrap (x4.t6 + 1)) l6) V5 ∧ mu_ref1_NatText_1 (C_ref1_NatText_1.mk r1) (L_ref1_NatText_1.mk (x4.t3l + 1) c2 (IntKind.u32.wrap (Int.tdiv x4.t5 10)) (IntKind.i64.wrap (x4.t6 + 1)) l6) V5 < mu_ref1_NatText_1 (C_ref1_NatText_1.mk r1) x4 V3) ∧
        ((decide (((r1.len : Int) : Int) > 0)) = false →
          I_ref1_NatText_0 () (L_ref1_NatText_0.mk r1 x4.t3l x4.t3c x4.o3) V3 ∧ mu_ref1_NatText_0 () (L_ref1_NatText_0.mk r1 x4.t3l x4.t3c x4.o3) V3 < mu_ref1_NatText_0 () x2 V1))) ∧
        ((decide ((x4.t6 : Int) < 9)) = false →
        (false = true →
          ∀ (b3 : Nat) (V6 : View), View.le V3 V6 → View.Fin V6 → V6 b3 = some #[.int .u8 (IntKind.u8.wrap (IntKind.u32.wrap (48 + (Int.tmod x4.t5 10))))] →
        ∃ (l7 : List Value) (l8 : List Value), LstOk 1 x4.t3l x4.t3c x4.o3 l7 ∧ View.has V6 (some (Addr.mk b3 0 none)) l8 ∧ List.length l8 = 1 * 1 ∧ (∀ v ∈ l8, Value.oneCell' v = true) ∧ x4.t3l + 1 ≤ maxLen ∧ (x4.t3l + 1) * 1 ≤ 140737488355328 ∧
        ∀ (c3 : Nat) (l9 : List Value), LstOk 1 (x4.t3l + 1) c3 l9 (l7 ++ l8) →
        I_ref1_NatText_1 (C_ref1_NatText_1.mk r1) (L_ref1_NatText_1.mk (x4.t3l + 1) c3 (IntKind.u32.wrap (Int.tdiv x4.t5 10)) (IntKind.i64.wrap (x4.t6 + 1)) l9) V6 ∧ mu_ref1_NatText_1 (C_ref1_NatText_1.mk r1) (L_ref1_NatText_1.mk (x4.t3l + 1) c3 (IntKind.u32.wrap (Int.tdiv x4.t5 10)) (IntKind.i64.wrap (x4.t6 + 1)) l9) V6 < mu_ref1_NatText_1 (C_ref1_NatText_1.mk r1) x4 V3) ∧
        (false = false →
          I_ref1_NatText_0 () (L_ref1_NatText_0.mk r1 x4.t3l x4.t3c x4.o3) V3 ∧ mu_ref1_NatText_0 () (L_ref1_NatText_0.mk r1 x4.t3l x4.t3c x4.o3) V3 < mu_ref1_NatText_0 () x2 V1)))) ∧
      ((decide (((x2.t0.len : Int) : Int) > 0)) = false →
        (x2.o3 ≠ [] ∧ (x2.t3c ≠ 0 ∧ True) ∧ (True)) ∧
    I_ref1_NatText_2 (C_ref1_NatText_2.mk x2.t3l x2.t3c) (L_ref1_NatText_2.mk 0 (IntKind.i64.wrap (((x2.t3l : Nat) : Int) - 1)) x2.o3) V1 ∧
    (∀ (x12 : L_ref1_NatText_2) (V7 : View), View.le V1 V7 → I_ref1_NatText_2 (C_ref1_NatText_2.mk x2.t3l x2.t3c) x12 V7 →
      ((decide ((x12.t7 : Int) < x12.t8)) = true →
        ((0 : Int) ≤ x12.t8 ∧ (x12.t8 : Int) < (x2.t3l : Nat)) ∧
      ∃ x13 : Int, x12.o3[0 + Int.toNat x12.t8 * 1]? = some (.int .u8 x13) ∧
      ((0 : Int) ≤ x12.t7 ∧ (x12.t7 : Int) < (x2.t3l : Nat)) ∧
      ∃ x14 : Int, x12.o3[0 + Int.toNat x12.t7 * 1]? = some (.int .u8 x14) ∧
      ((0 : Int) ≤ x12.t7 ∧ (x12.t7 : Int) < (x2.t3l : Nat)) ∧
      0 + Int.toNat x12.t7 * 1 + 1 ≤ List.length x12.o3 ∧
      ((0 : Int) ≤ x12.t8 ∧ (x12.t8 : Int) < (x2.t3l : Nat)) ∧
      0 + Int.toNat x12.t8 * 1 + 1 ≤ List.length (List.set x12.o3 (0 + Int.toNat x12.t7 * 1) (.int .u8 x13)) ∧
      I_ref1_NatText_2 (C_ref1_NatText_2.mk x2.t3l x2.t3c) (L_ref1_NatText_2.mk (IntKind.i64.wrap (x12.t7 + 1)) (IntKind.i64.wrap (x12.t8 - 1)) (List.set (List.set x12.o3 (0 + Int.toNat x12.t7 * 1) (.int .u8 x13)) (0 + Int.toNat x12.t8 * 1) (.int .u8 x14))) V7 ∧ mu_ref1_NatText_2 (C_ref1_NatText_2.mk x2.t3l x2.t3c) (L_ref1_NatText_2.mk (IntKind.i64.wrap (x12.t7 + 1)) (IntKind.i64.wrap (x12.t8 - 1)) (List.set (List.set x12.o3 (0 + Int.toNat x12.t7 * 1) (.int .u8 x13)) (0 + Int.toNat x12.t8 * 1) (.int .u8 x14))) V7 < mu_ref1_NatText_2 (C_ref1_NatText_2.mk x2.t3l x2.t3c) x12 V7) ∧
      ((decide ((x12.t7 : Int) < x12.t8)) = false →
        ∀ (b4 : Nat) (V8 : View), View.le V7 V8 → V8 b4 = some (List.toArray x12.o3) →
    ∃ l10 : List UInt8, View.has V8 (some (Addr.mk b4 0 none)) (List.map byteV l10) ∧ List.length l10 = x2.t3l ∧ Option.isSome (some (Addr.mk b4 0 none)) = true ∧
    R (.string (ByteArray.mk (List.toArray l10))) V8)))))) :
  CallV Try.prog 150 #[p0.v] V R :=
  calls_of_vc (Shp := Shp) hmixed Try.func150 (c := Try.f150.body.getD .skip) (args := [p0.v]) (by kernel_rfl)
    (.seq (.reg [⟨2, 2, false⟩]) (.seq (.seq (.reg [⟨9, 2, false⟩, ⟨10, 0, false⟩, ⟨11, 0, false⟩]) (.cond (.seq (.reg [⟨2, 2, false⟩]) .leaf) .leaf)) (.seq (.reg [⟨3, 2, false⟩]) (.seq (.adopt 3 3 5 (.block (.loop Unit L_ref1_NatText_0 (fun _ => ()) (fun c x => { tm := spT 69 0 [(0, .val (x.t0.v)), (3, .lst 3 x.t3l x.t3c)], own := spO 69 0 [(3, ⟨5, .list x.o3⟩)] }) I_ref1_NatText_0 mu_ref1_NatText_0 (.seq (.seq (.reg [⟨12, 2, false⟩, ⟨13, 0, false⟩, ⟨14, 0, false⟩]) (.cond .leaf .leaf)) (.block (.seq (.reg [⟨16, 2, false⟩, ⟨17, 10, false⟩, ⟨15, 2, false⟩, ⟨18, 0, false⟩, ⟨19, 0, false⟩, ⟨4, 2, false⟩, ⟨5, 2, false⟩]) (.seq (.seq (.reg [⟨6, 2, false⟩]) (.block (.loop C_ref1_NatText_1 L_ref1_NatText_1 (fun σ => C_ref1_NatText_1.mk (Sl.mk (gSlA (gTm σ 4)) (gSlL (gTm σ 4)) (gSlC (gTm σ 4)))) (fun c x => { tm := spT 69 0 [(3, .lst 3 x.t3l x.t3c), (4, .val (c.t4.v)), (5, .val (.int .u32 x.t5)), (6, .val (.int .i64 x.t6))], own := spO 69 0 [(3, ⟨5, .list x.o3⟩)] }) I_ref1_NatText_1 mu_ref1_NatText_1 (.seq (.seq (.reg [⟨20, 2, false⟩, ⟨21, 0, false⟩, ⟨22, 2, true⟩, ⟨23, 2, false⟩, ⟨24, 0, false⟩, ⟨25, 2, true⟩, ⟨26, 2, false⟩, ⟨27, 0, false⟩, ⟨28, 0, false⟩, ⟨29, 2, false⟩, ⟨30, 2, false⟩]) (.cond .leaf .leaf)) (.seq (.block (.seq (.reg [⟨33, 2, false⟩, ⟨34, 2, false⟩, ⟨35, 0, false⟩, ⟨36, 0, false⟩, ⟨37, 0, false⟩, ⟨38, 11, false⟩, ⟨3, 13, false⟩, ⟨3, 2, false⟩]) (.reg [⟨40, 2, false⟩, ⟨41, 0, false⟩, ⟨5, 2, false⟩]))) (.reg [⟨31, 2, false⟩, ⟨32, 0, false⟩, ⟨6, 2, false⟩])))))) (.reg [⟨42, 2, false⟩, ⟨0, 2, false⟩])))))))) (.seq (.seq (.solid 3 (.reg [⟨43, 2, false⟩, ⟨44, 7, false⟩, ⟨45, 0, false⟩, ⟨7, 2, false⟩, ⟨8, 2, false⟩])) (.block (.loop C_ref1_NatText_2 L_ref1_NatText_2 (fun σ => C_ref1_NatText_2.mk (gLen (gTm σ 3)) (gCap (gTm σ 3))) (fun c x => { tm := spT 69 0 [(3, .osl 3 0 c.t3l c.t3c), (7, .val (.int .i64 x.t7)), (8, .val (.int .i64 x.t8))], own := spO 69 0 [(3, ⟨5, .dyn x.o3⟩)] }) I_ref1_NatText_2 mu_ref1_NatText_2 (.seq (.seq (.reg [⟨46, 2, false⟩, ⟨47, 2, false⟩, ⟨48, 0, false⟩]) (.cond .leaf .leaf)) (.seq (.block (.draw [(0, ⟨53, 2, false⟩), (1, ⟨54, 2, false⟩), (2, ⟨55, 2, false⟩), (3, ⟨56, 2, false⟩), (4, ⟨57, 2, false⟩), (5, ⟨58, 2, false⟩), (6, ⟨59, 7, false⟩), (7, ⟨3, 4, false⟩), (8, ⟨61, 2, false⟩), (9, ⟨62, 2, false⟩), (10, ⟨63, 7, false⟩), (11, ⟨3, 4, false⟩), (12, ⟨65, 7, false⟩), (13, ⟨3, 6, false⟩), (14, ⟨66, 7, false⟩), (15, ⟨3, 6, false⟩)] [0, 0, 0, 0, 0, 0, 48, 112, 0, 0, 768, 1792, 4083, 8179, 16383, 32767])) (.reg [⟨49, 2, false⟩, ⟨50, 0, false⟩, ⟨51, 2, false⟩, ⟨52, 0, false⟩, ⟨7, 2, false⟩, ⟨8, 2, false⟩])))))) (.seq (.pub 3 (.reg [⟨67, 2, false⟩, ⟨68, 5, false⟩, ⟨2, 2, false⟩])) .leaf))))))
    (Eq.mpr (by kernel_rfl) (show ((((p0.len : Int) : Int) == 0) = true →
      R (.string (ByteArray.mk #[48])) V) ∧
    ((((p0.len : Int) : Int) == 0) = false →
      (∃ x1 : L_ref1_NatText_0, ((SV.val (p0.v) = SV.val (x1.t0.v) ∧ SV.lst 3 0 0 = SV.lst 3 x1.t3l x1.t3c ∧ True) ∧ ((some (⟨5, .list ([] : List Value)⟩) : Option OB) = some (⟨5, .list x1.o3⟩) ∧ True)) ∧ I_ref1_NatText_0 () x1 V) ∧
    (∀ (x2 : L_ref1_NatText_0) (V1 : View), View.le V V1 → I_ref1_NatText_0 () x2 V1 →
      ((decide (((x2.t0.len : Int) : Int) > 0)) = true →
        CallV Try.prog 163 #[x2.t0.v, .int .u32 1000000000] V1 fun v V2 => ∃ (r1 : Sl) (r2 : Int), v = .tuple #[r1.v, .int .u32 r2] ∧ -- waveportref01.natDigit
      (∃ x3 : L_ref1_NatText_1, ((SV.lst 3 x2.t3l x2.t3c = SV.lst 3 x3.t3l x3.t3c ∧ SV.val (r1.v) = SV.val (r1.v) ∧ SV.val (.int .u32 r2) = SV.val (.int .u32 x3.t5) ∧ SV.val (.int .i64 0) = SV.val (.int .i64 x3.t6) ∧ True) ∧ ((some (⟨5, .list x2.o3⟩) : Option OB) = some (⟨5, .list x3.o3⟩) ∧ True)) ∧ I_ref1_NatText_1 (C_ref1_NatText_1.mk r1) x3 V2) ∧
      (∀ (x4 : L_ref1_NatText_1) (V3 : View), View.le V2 V3 → I_ref1_NatText_1 (C_ref1_NatText_1.mk r1) x4 V3 →
        ((decide ((x4.t6 : Int) < 9)) = true →
        ((decide ((x4.t5 : Int) > 0)) = true →
        (true = true →
          ∀ (b1 : Nat) (V4 : View), View.le V3 V4 → View.Fin V4 → V4 b1 = some #[.int .u8 (IntKind.u8.wrap (IntKind.u32.wrap (48 + (Int.tmod x4.t5 10))))] →
        ∃ (l1 : List Value) (l2 : List Value), LstOk 1 x4.t3l x4.t3c x4.o3 l1 ∧ View.has V4 (some (Addr.mk b1 0 none)) l2 ∧ List.length l2 = 1 * 1 ∧ (∀ v ∈ l2, Value.oneCell' v = true) ∧ x4.t3l + 1 ≤ maxLen ∧ (x4.t3l + 1) * 1 ≤ 140737488355328 ∧
        ∀ (c1 : Nat) (l3 : List Value), LstOk 1 (x4.t3l + 1) c1 l3 (l1 ++ l2) →
        ∃ x5 : L_ref1_NatText_1, ((SV.lst 3 (x4.t3l + 1) c1 = SV.lst 3 x5.t3l x5.t3c ∧ SV.val (r1.v) = SV.val (r1.v) ∧ SV.val (.int .u32 (IntKind.u32.wrap (Int.tdiv x4.t5 10))) = SV.val (.int .u32 x5.t5) ∧ SV.val (.int .i64 (IntKind.i64.wrap (x4.t6 + 1))) = SV.val (.int .i64 x5.t6) ∧ True) ∧ ((some (⟨5, .list l3⟩) : Option OB) = some (⟨5, .list x5.o3⟩) ∧ True)) ∧ I_ref1_NatText_1 (C_ref1_NatText_1.mk r1) x5 V4 ∧ mu_ref1_NatText_1 (C_ref1_NatText_1.mk r1) x5 V4 < mu_ref1_NatText_1 (C_ref1_NatText_1.mk r1) x4 V3) ∧
        (true = false →
          ∃ x6 : L_ref1_NatText_0, ((SV.val (r1.v) = SV.val (x6.t0.v) ∧ SV.lst 3 x4.t3l x4.t3c = SV.lst 3 x6.t3l x6.t3c ∧ True) ∧ ((some (⟨5, .list x4.o3⟩) : Option OB) = some (⟨5, .list x6.o3⟩) ∧ True)) ∧ I_ref1_NatText_0 () x6 V3 ∧ mu_ref1_NatText_0 () x6 V3 < mu_ref1_NatText_0 () x2 V1)) ∧
        ((decide ((x4.t5 : Int) > 0)) = false →
        ((decide (((r1.len : Int) : Int) > 0)) = true →
          ∀ (b2 : Nat) (V5 : View), View.le V3 V5 → View.Fin V5 → V5 b2 = some #[.int .u8 (IntKind.u8.wrap (IntKind.u32.wrap (48 + (Int.tmod x4.t5 10))))] →
        ∃ (l4 : List Value) (l5 : List Value), LstOk 1 x4.t3l x4.t3c x4.o3 l4 ∧ View.has V5 (some (Addr.mk b2 0 none)) l5 ∧ List.length l5 = 1 * 1 ∧ (∀ v ∈ l5, Value.oneCell' v = true) ∧ x4.t3l + 1 ≤ maxLen ∧ (x4.t3l + 1) * 1 ≤ 140737488355328 ∧
        ∀ (c2 : Nat) (l6 : List Value), LstOk 1 (x4.t3l + 1) c2 l6 (l4 ++ l5) →
        ∃ x7 : L_ref1_NatText_1, ((SV.lst 3 (x4.t3l + 1) c2 = SV.lst 3 x7.t3l x7.t3c ∧ SV.val (r1.v) = SV.val (r1.v) ∧ SV.val (.int .u32 (IntKind.u32.wrap (Int.tdiv x4.t5 10))) = SV.val (.int .u32 x7.t5) ∧ SV.val (.int .i64 (IntKind.i64.wrap (x4.t6 + 1))) = SV.val (.int .i64 x7.t6) ∧ True) ∧ ((some (⟨5, .list l6⟩) : Option OB) = some (⟨5, .list x7.o3⟩) ∧ True)) ∧ I_ref1_NatText_1 (C_ref1_NatText_1.mk r1) x7 V5 ∧ mu_ref1_NatText_1 (C_ref1_NatText_1.mk r1) x7 V5 < mu_ref1_NatText_1 (C_ref1_NatText_1.mk r1) x4 V3) ∧
        ((decide (((r1.len : Int) : Int) > 0)) = false →
          ∃ x8 : L_ref1_NatText_0, ((SV.val (r1.v) = SV.val (x8.t0.v) ∧ SV.lst 3 x4.t3l x4.t3c = SV.lst 3 x8.t3l x8.t3c ∧ True) ∧ ((some (⟨5, .list x4.o3⟩) : Option OB) = some (⟨5, .list x8.o3⟩) ∧ True)) ∧ I_ref1_NatText_0 () x8 V3 ∧ mu_ref1_NatText_0 () x8 V3 < mu_ref1_NatText_0 () x2 V1))) ∧
        ((decide ((x4.t6 : Int) < 9)) = false →
        (false = true →
          ∀ (b3 : Nat) (V6 : View), View.le V3 V6 → View.Fin V6 → V6 b3 = some #[.int .u8 (IntKind.u8.wrap (IntKind.u32.wrap (48 + (Int.tmod x4.t5 10))))] →
        ∃ (l7 : List Value) (l8 : List Value), LstOk 1 x4.t3l x4.t3c x4.o3 l7 ∧ View.has V6 (some (Addr.mk b3 0 none)) l8 ∧ List.length l8 = 1 * 1 ∧ (∀ v ∈ l8, Value.oneCell' v = true) ∧ x4.t3l + 1 ≤ maxLen ∧ (x4.t3l + 1) * 1 ≤ 140737488355328 ∧
        ∀ (c3 : Nat) (l9 : List Value), LstOk 1 (x4.t3l + 1) c3 l9 (l7 ++ l8) →
        ∃ x9 : L_ref1_NatText_1, ((SV.lst 3 (x4.t3l + 1) c3 = SV.lst 3 x9.t3l x9.t3c ∧ SV.val (r1.v) = SV.val (r1.v) ∧ SV.val (.int .u32 (IntKind.u32.wrap (Int.tdiv x4.t5 10))) = SV.val (.int .u32 x9.t5) ∧ SV.val (.int .i64 (IntKind.i64.wrap (x4.t6 + 1))) = SV.val (.int .i64 x9.t6) ∧ True) ∧ ((some (⟨5, .list l9⟩) : Option OB) = some (⟨5, .list x9.o3⟩) ∧ True)) ∧ I_ref1_NatText_1 (C_ref1_NatText_1.mk r1) x9 V6 ∧ mu_ref1_NatText_1 (C_ref1_NatText_1.mk r1) x9 V6 < mu_ref1_NatText_1 (C_ref1_NatText_1.mk r1) x4 V3) ∧
        (false = false →
          ∃ x10 : L_ref1_NatText_0, ((SV.val (r1.v) = SV.val (x10.t0.v) ∧ SV.lst 3 x4.t3l x4.t3c = SV.lst 3 x10.t3l x10.t3c ∧ True) ∧ ((some (⟨5, .list x4.o3⟩) : Option OB) = some (⟨5, .list x10.o3⟩) ∧ True)) ∧ I_ref1_NatText_0 () x10 V3 ∧ mu_ref1_NatText_0 () x10 V3 < mu_ref1_NatText_0 () x2 V1)))) ∧
      ((decide (((x2.t0.len : Int) : Int) > 0)) = false →
        (x2.o3 ≠ [] ∧ (x2.t3c ≠ 0 ∧ True) ∧ (True)) ∧
    (∃ x11 : L_ref1_NatText_2, ((SV.osl 3 0 x2.t3l x2.t3c = SV.osl 3 0 x2.t3l x2.t3c ∧ SV.val (.int .i64 0) = SV.val (.int .i64 x11.t7) ∧ SV.val (.int .i64 (IntKind.i64.wrap (((x2.t3l : Nat) : Int) - 1))) = SV.val (.int .i64 x11.t8) ∧ True) ∧ ((some (⟨5, .dyn x2.o3⟩) : Option OB) = some (⟨5, .dyn x11.o3⟩) ∧ True)) ∧ I_ref1_NatText_2 (C_ref1_NatText_2.mk x2.t3l x2.t3c) x11 V1) ∧
    (∀ (x12 : L_ref1_NatText_2) (V7 : View), View.le V1 V7 → I_ref1_NatText_2 (C_ref1_NatText_2.mk x2.t3l x2.t3c) x12 V7 →
      ((decide ((x12.t7 : Int) < x12.t8)) = true →
        ((0 : Int) ≤ x12.t8 ∧ (x12.t8 : Int) < (x2.t3l : Nat)) ∧
      ∃ x13 : Int, x12.o3[0 + Int.toNat x12.t8 * 1]? = some (.int .u8 x13) ∧
      ((0 : Int) ≤ x12.t7 ∧ (x12.t7 : Int) < (x2.t3l : Nat)) ∧
      ∃ x14 : Int, x12.o3[0 + Int.toNat x12.t7 * 1]? = some (.int .u8 x14) ∧
      ((0 : Int) ≤ x12.t7 ∧ (x12.t7 : Int) < (x2.t3l : Nat)) ∧
      0 + Int.toNat x12.t7 * 1 + 1 ≤ List.length x12.o3 ∧
      ((0 : Int) ≤ x12.t8 ∧ (x12.t8 : Int) < (x2.t3l : Nat)) ∧
      0 + Int.toNat x12.t8 * 1 + 1 ≤ List.length (List.set x12.o3 (0 + Int.toNat x12.t7 * 1) (.int .u8 x13)) ∧
      ∃ x15 : L_ref1_NatText_2, ((SV.osl 3 0 x2.t3l x2.t3c = SV.osl 3 0 x2.t3l x2.t3c ∧ SV.val (.int .i64 (IntKind.i64.wrap (x12.t7 + 1))) = SV.val (.int .i64 x15.t7) ∧ SV.val (.int .i64 (IntKind.i64.wrap (x12.t8 - 1))) = SV.val (.int .i64 x15.t8) ∧ True) ∧ ((some (⟨5, .dyn (List.set (List.set x12.o3 (0 + Int.toNat x12.t7 * 1) (.int .u8 x13)) (0 + Int.toNat x12.t8 * 1) (.int .u8 x14))⟩) : Option OB) = some (⟨5, .dyn x15.o3⟩) ∧ True)) ∧ I_ref1_NatText_2 (C_ref1_NatText_2.mk x2.t3l x2.t3c) x15 V7 ∧ mu_ref1_NatText_2 (C_ref1_NatText_2.mk x2.t3l x2.t3c) x15 V7 < mu_ref1_NatText_2 (C_ref1_NatText_2.mk x2.t3l x2.t3c) x12 V7) ∧
      ((decide ((x12.t7 : Int) < x12.t8)) = false →
        ∀ (b4 : Nat) (V8 : View), View.le V7 V8 → V8 b4 = some (List.toArray x12.o3) →
    ∃ l10 : List UInt8, View.has V8 (some (Addr.mk b4 0 none)) (List.map byteV l10) ∧ List.length l10 = x2.t3l ∧ Option.isSome (some (Addr.mk b4 0 none)) = true ∧
    R (.string (ByteArray.mk (List.toArray l10))) V8))))) from ⟨fun h59 => (h.1 h59), fun h59 => ⟨⟨(L_ref1_NatText_0.mk p0 0 0 ([] : List Value)), ⟨⟨rfl, rfl, trivial⟩, ⟨rfl, trivial⟩⟩, (h.2 h59).1⟩, fun x2 V1 h57 h58 => ⟨fun h56 => (CallV.mono (((h.2 h59).2 x2 V1 h57 h58).1 h56) (fun _ _ _ ⟨r1, r2, h42, h41⟩ => ⟨r1, r2, h42, ⟨⟨(L_ref1_NatText_1.mk x2.t3l x2.t3c r2 0 x2.o3), ⟨⟨rfl, rfl, rfl, rfl, trivial⟩, ⟨rfl, trivial⟩⟩, h41.1⟩, fun x4 V3 h39 h40 => ⟨fun h38 => ⟨fun h25 => ⟨fun h12 => (fun b1 V4 h9 h10 h11 => (match (((((h41.2 x4 V3 h39 h40).1 h38).1 h25).1 h12) b1 V4 h9 h10 h11) with | ⟨l1, l2, h3, h4, h5, h6, h7, h8, h2⟩ => ⟨l1, l2, h3, h4, h5, h6, h7, h8, (fun c1 l3 h1 => ⟨(L_ref1_NatText_1.mk (x4.t3l + 1) c1 (IntKind.u32.wrap (Int.tdiv x4.t5 10)) (IntKind.i64.wrap (x4.t6 + 1)) l3), ⟨⟨rfl, rfl, rfl, rfl, trivial⟩, ⟨rfl, trivial⟩⟩, (h2 c1 l3 h1).1, (h2 c1 l3 h1).2⟩)⟩)), fun h12 => ⟨(L_ref1_NatText_0.mk r1 x4.t3l x4.t3c x4.o3), ⟨⟨rfl, rfl, trivial⟩, ⟨rfl, trivial⟩⟩, ((((h41.2 x4 V3 h39 h40).1 h38).1 h25).2 h12).1, ((((h41.2 x4 V3 h39 h40).1 h38).1 h25).2 h12).2⟩⟩, fun h25 => ⟨fun h24 => (fun b2 V5 h21 h22 h23 => (match (((((h41.2 x4 V3 h39 h40).1 h38).2 h25).1 h24) b2 V5 h21 h22 h23) with | ⟨l4, l5, h15, h16, h17, h18, h19, h20, h14⟩ => ⟨l4, l5, h15, h16, h17, h18, h19, h20, (fun c2 l6 h13 => ⟨(L_ref1_NatText_1.mk (x4.t3l + 1) c2 (IntKind.u32.wrap (Int.tdiv x4.t5 10)) (IntKind.i64.wrap (x4.t6 + 1)) l6), ⟨⟨rfl, rfl, rfl, rfl, trivial⟩, ⟨rfl, trivial⟩⟩, (h14 c2 l6 h13).1, (h14 c2 l6 h13).2⟩)⟩)), fun h24 => ⟨(L_ref1_NatText_0.mk r1 x4.t3l x4.t3c x4.o3), ⟨⟨rfl, rfl, trivial⟩, ⟨rfl, trivial⟩⟩, ((((h41.2 x4 V3 h39 h40).1 h38).2 h25).2 h24).1, ((((h41.2 x4 V3 h39 h40).1 h38).2 h25).2 h24).2⟩⟩⟩, fun h38 => ⟨fun h37 => (fun b3 V6 h34 h35 h36 => (match ((((h41.2 x4 V3 h39 h40).2 h38).1 h37) b3 V6 h34 h35 h36) with | ⟨l7, l8, h28, h29, h30, h31, h32, h33, h27⟩ => ⟨l7, l8, h28, h29, h30, h31, h32, h33, (fun c3 l9 h26 => ⟨(L_ref1_NatText_1.mk (x4.t3l + 1) c3 (IntKind.u32.wrap (Int.tdiv x4.t5 10)) (IntKind.i64.wrap (x4.t6 + 1)) l9), ⟨⟨rfl, rfl, rfl, rfl, trivial⟩, ⟨rfl, trivial⟩⟩, (h27 c3 l9 h26).1, (h27 c3 l9 h26).2⟩)⟩)), fun h37 => ⟨(L_ref1_NatText_0.mk r1 x4.t3l x4.t3c x4.o3), ⟨⟨rfl, rfl, trivial⟩, ⟨rfl, trivial⟩⟩, (((h41.2 x4 V3 h39 h40).2 h38).2 h37).1, (((h41.2 x4 V3 h39 h40).2 h38).2 h37).2⟩⟩⟩⟩⟩)), fun h56 => ⟨(((h.2 h59).2 x2 V1 h57 h58).2 h56).1, ⟨⟨(L_ref1_NatText_2.mk 0 (IntKind.i64.wrap (((x2.t3l : Nat) : Int) - 1)) x2.o3), ⟨⟨rfl, rfl, rfl, trivial⟩, ⟨rfl, trivial⟩⟩, (((h.2 h59).2 x2 V1 h57 h58).2 h56).2.1⟩, fun x12 V7 h54 h55 => ⟨fun h53 => ⟨(((((h.2 h59).2 x2 V1 h57 h58).2 h56).2.2 x12 V7 h54 h55).1 h53).1, (match (((((h.2 h59).2 x2 V1 h57 h58).2 h56).2.2 x12 V7 h54 h55).1 h53).2 with | ⟨x13, h46, h45⟩ => ⟨x13, h46, ⟨h45.1, (match h45.2 with | ⟨x14, h44, h43⟩ => ⟨x14, h44, ⟨h43.1, ⟨h43.2.1, ⟨h43.2.2.1, ⟨h43.2.2.2.1, ⟨(L_ref1_NatText_2.mk (IntKind.i64.wrap (x12.t7 + 1)) (IntKind.i64.wrap (x12.t8 - 1)) (List.set (List.set x12.o3 (0 + Int.toNat x12.t7 * 1) (.int .u8 x13)) (0 + Int.toNat x12.t8 * 1) (.int .u8 x14))), ⟨⟨rfl, rfl, rfl, trivial⟩, ⟨rfl, trivial⟩⟩, h43.2.2.2.2.1, h43.2.2.2.2.2⟩⟩⟩⟩⟩⟩)⟩⟩)⟩, fun h53 => (fun b4 V8 h51 h52 => (match ((((((h.2 h59).2 x2 V1 h57 h58).2 h56).2.2 x12 V7 h54 h55).2 h53) b4 V8 h51 h52) with | ⟨l10, h48, h49, h50, h47⟩ => ⟨l10, h48, h49, h50, h47⟩))⟩⟩⟩⟩⟩⟩))

/-- waveport/waveportref01.half -/
theorem ref1_half_vc (p0 : WhV) (p1 : Sl) (V : View) (R : Value → View → Prop) 
  (h :
    CallV Try.prog 137 #[p0.mag.v, p1.v] V fun v V1 => ∃ r1 : Sl, v = r1.v ∧ -- waveportref01.NatGcd
    CallV Try.prog 138 #[p0.mag.v, r1.v] V1 fun v V2 => ∃ (r2 : Sl) (r3 : Sl), v = .tuple #[r2.v, r3.v] ∧ -- waveportref01.NatDiv
    CallV Try.prog 138 #[p1.v, r1.v] V2 fun v V3 => ∃ (r4 : Sl) (r5 : Sl), v = .tuple #[r4.v, r5.v] ∧ -- waveportref01.NatDiv
    CallV Try.prog 150 #[r2.v] V3 fun v V4 => ∃ r6 : ByteArray, v = .string r6 ∧ -- waveportref01.NatText
    (p0.neg = true →
      ((ByteArray.size (ByteArray.mk #[45]) + ByteArray.size r6 : Nat) : Int) ≤ IntKind.i64.max ∧
      ((((r4.len : Int) : Int) == 1) = true →
    ((0 : Int) ≤ 0 ∧ (0 : Int) < (r4.len : Nat) ∧ Option.isSome r4.a = true) ∧
    ∃ x1 : Int, View.load V4 (Option.map (fun q => Addr.add q (Int.toNat 0 * 1)) r4.a) = some (.int .u32 x1) ∧
    (((x1 : Int) == 1) = true →
      R (.string ((ByteArray.mk #[45]) ++ r6)) V4) ∧
    (((x1 : Int) == 1) = false →
      ((ByteArray.size ((ByteArray.mk #[45]) ++ r6) + ByteArray.size (ByteArray.mk #[47]) : Nat) : Int) ≤ IntKind.i64.max ∧
    CallV Try.prog 150 #[r4.v] V4 fun v V5 => ∃ r7 : ByteArray, v = .string r7 ∧ -- waveportref01.NatText
    ((ByteArray.size (((ByteArray.mk #[45]) ++ r6) ++ (ByteArray.mk #[47])) + ByteArray.size r7 : Nat) : Int) ≤ IntKind.i64.max ∧
    R (.string ((((ByteArray.mk #[45]) ++ r6) ++ (ByteArray.mk #[47])) ++ r7)) V5)) ∧
    ((((r4.len : Int) : Int) == 1) = false →
    (false = true →
      R (.string ((ByteArray.mk #[45]) ++ r6)) V4) ∧
    (false = false →
      ((ByteArray.size ((ByteArray.mk #[45]) ++ r6) + ByteArray.size (ByteArray.mk #[47]) : Nat) : Int) ≤ IntKind.i64.max ∧
    CallV Try.prog 150 #[r4.v] V4 fun v V6 => ∃ r8 : ByteArray, v = .string r8 ∧ -- waveportref01.NatText
    ((ByteArray.size (((ByteArray.mk #[45]) ++ r6) ++ (ByteArray.mk #[47])) + ByteArray.size r8 : Nat) : Int) ≤ IntKind.i64.max ∧
    R (.string ((((ByteArray.mk #[45]) ++ r6) ++ (ByteArray.mk #[47])) ++ r8)) V6))) ∧
    (p0.neg = false →
      ((((r4.len : Int) : Int) == 1) = true →
    ((0 : Int) ≤ 0 ∧ (0 : Int) < (r4.len : Nat) ∧ Option.isSome r4.a = true) ∧
    ∃ x2 : Int, View.load V4 (Option.map (fun q => Addr.add q (Int.toNat 0 * 1)) r4.a) = some (.int .u32 x2) ∧
    (((x2 : Int) == 1) = true →
      R (.string r6) V4) ∧
    (((x2 : Int) == 1) = false →
      ((ByteArray.size r6 + ByteArray.size (ByteArray.mk #[47]) : Nat) : Int) ≤ IntKind.i64.max ∧
    CallV Try.prog 150 #[r4.v] V4 fun v V7 => ∃ r9 : ByteArray, v = .string r9 ∧ -- waveportref01.NatText
    ((ByteArray.size (r6 ++ (ByteArray.mk #[47])) + ByteArray.size r9 : Nat) : Int) ≤ IntKind.i64.max ∧
    R (.string ((r6 ++ (ByteArray.mk #[47])) ++ r9)) V7)) ∧
    ((((r4.len : Int) : Int) == 1) = false →
    (false = true →
      R (.string r6) V4) ∧
    (false = false →
      ((ByteArray.size r6 + ByteArray.size (ByteArray.mk #[47]) : Nat) : Int) ≤ IntKind.i64.max ∧
    CallV Try.prog 150 #[r4.v] V4 fun v V8 => ∃ r10 : ByteArray, v = .string r10 ∧ -- waveportref01.NatText
    ((ByteArray.size (r6 ++ (ByteArray.mk #[47])) + ByteArray.size r10 : Nat) : Int) ≤ IntKind.i64.max ∧
    R (.string ((r6 ++ (ByteArray.mk #[47])) ++ r10)) V8)))) :
  CallV Try.prog 112 #[p0.val, p1.v] V R :=
  calls_of_vc (Shp := Shp) hmixed Try.func112 (c := Try.f112.body.getD .skip) (args := [p0.val, p1.v]) (by kernel_rfl)
    (.seq (.reg [⟨2, 3, false⟩, ⟨4, 2, false⟩]) (.seq (.reg [⟨11, 7, false⟩, ⟨2, 4, false⟩, ⟨13, 2, false⟩, ⟨14, 10, false⟩, ⟨5, 2, false⟩]) (.seq (.reg [⟨16, 7, false⟩, ⟨2, 4, false⟩, ⟨18, 2, false⟩, ⟨19, 10, false⟩, ⟨15, 2, false⟩, ⟨20, 0, false⟩, ⟨21, 0, false⟩, ⟨6, 2, false⟩, ⟨7, 2, false⟩]) (.seq (.reg [⟨23, 2, false⟩, ⟨24, 2, false⟩, ⟨25, 10, false⟩, ⟨22, 2, false⟩, ⟨26, 0, false⟩, ⟨27, 0, false⟩, ⟨8, 2, false⟩, ⟨9, 2, false⟩]) (.seq (.reg [⟨28, 2, false⟩, ⟨29, 10, false⟩, ⟨10, 2, false⟩]) (.seq (.seq (.reg [⟨30, 7, false⟩, ⟨2, 4, false⟩]) (.cond (.reg [⟨32, 2, false⟩, ⟨33, 12, false⟩, ⟨10, 2, false⟩]) .leaf)) (.seq (.seq (.reg [⟨34, 2, false⟩, ⟨35, 0, false⟩, ⟨36, 0, false⟩, ⟨37, 2, true⟩, ⟨38, 2, false⟩, ⟨39, 7, false⟩, ⟨40, 5, false⟩, ⟨41, 0, false⟩, ⟨42, 2, false⟩]) (.cond (.seq (.reg [⟨43, 2, false⟩, ⟨4, 2, false⟩]) .leaf) .leaf)) (.seq (.reg [⟨44, 2, false⟩, ⟨45, 12, false⟩, ⟨46, 2, false⟩, ⟨47, 10, false⟩, ⟨48, 12, false⟩, ⟨4, 2, false⟩]) .leaf))))))))
    (Eq.mpr (by kernel_rfl) h)

/-- waveport/waveportref01.Text -/
theorem ref1_Text_vc (p0 : NumV) (V : View) (R : Value → View → Prop) 
  (h :
    ((((p0.im.mag.len : Int) : Int) == 0) = true →
      CallV Try.prog 112 #[p0.re.val, p0.under.v] V fun v V1 => ∃ r1 : ByteArray, v = .string r1 ∧ -- waveportref01.half
      R (.string r1) V1) ∧
    ((((p0.im.mag.len : Int) : Int) == 0) = false →
      ((((p0.re.mag.len : Int) : Int) == 0) = true →
      CallV Try.prog 112 #[p0.im.val, p0.under.v] V fun v V2 => ∃ r2 : ByteArray, v = .string r2 ∧ -- waveportref01.half
      ((ByteArray.size r2 + ByteArray.size (ByteArray.mk #[105]) : Nat) : Int) ≤ IntKind.i64.max ∧
      R (.string (r2 ++ (ByteArray.mk #[105]))) V2) ∧
    ((((p0.re.mag.len : Int) : Int) == 0) = false →
      (p0.im.neg = true →
      CallV Try.prog 112 #[p0.re.val, p0.under.v] V fun v V3 => ∃ r3 : ByteArray, v = .string r3 ∧ -- waveportref01.half
      CallV Try.prog 112 #[p0.im.val, p0.under.v] V3 fun v V4 => ∃ r4 : ByteArray, v = .string r4 ∧ -- waveportref01.half
      ((ByteArray.size r3 + ByteArray.size r4 : Nat) : Int) ≤ IntKind.i64.max ∧
      ((ByteArray.size (r3 ++ r4) + ByteArray.size (ByteArray.mk #[105]) : Nat) : Int) ≤ IntKind.i64.max ∧
      R (.string ((r3 ++ r4) ++ (ByteArray.mk #[105]))) V4) ∧
    (p0.im.neg = false →
      CallV Try.prog 112 #[p0.re.val, p0.under.v] V fun v V5 => ∃ r5 : ByteArray, v = .string r5 ∧ -- waveportref01.half
    ((ByteArray.size r5 + ByteArray.size (ByteArray.mk #[43]) : Nat) : Int) ≤ IntKind.i64.max ∧
    CallV Try.prog 112 #[p0.im.val, p0.under.v] V5 fun v V6 => ∃ r6 : ByteArray, v = .string r6 ∧ -- waveportref01.half
    ((ByteArray.size (r5 ++ (ByteArray.mk #[43])) + ByteArray.size r6 : Nat) : Int) ≤ IntKind.i64.max ∧
    ((ByteArray.size ((r5 ++ (ByteArray.mk #[43])) ++ r6) + ByteArray.size (ByteArray.mk #[105]) : Nat) : Int) ≤ IntKind.i64.max ∧
    R (.string (((r5 ++ (ByteArray.mk #[43])) ++ r6) ++ (ByteArray.mk #[105]))) V6)))) :
  CallV Try.prog 81 #[p0.val] V R :=
  calls_of_vc (Shp := Shp) hmixed Try.func81 (c := Try.f81.body.getD .skip) (args := [p0.val]) (by kernel_rfl)
    (.seq (.reg [⟨1, 3, false⟩, ⟨2, 2, false⟩]) (.seq (.seq (.reg [⟨3, 7, false⟩, ⟨4, 7, false⟩, ⟨1, 4, false⟩, ⟨6, 0, false⟩, ⟨7, 0, false⟩]) (.cond (.seq (.reg [⟨8, 7, false⟩, ⟨1, 4, false⟩, ⟨10, 7, false⟩, ⟨1, 4, false⟩, ⟨12, 10, false⟩, ⟨2, 2, false⟩]) .leaf) .leaf)) (.seq (.seq (.reg [⟨13, 7, false⟩, ⟨14, 7, false⟩, ⟨1, 4, false⟩, ⟨16, 0, false⟩, ⟨17, 0, false⟩]) (.cond (.seq (.reg [⟨18, 7, false⟩, ⟨1, 4, false⟩, ⟨20, 7, false⟩, ⟨1, 4, false⟩, ⟨22, 10, false⟩, ⟨23, 12, false⟩, ⟨2, 2, false⟩]) .leaf) .leaf)) (.seq (.seq (.reg [⟨24, 7, false⟩, ⟨25, 7, false⟩, ⟨1, 4, false⟩]) (.cond (.seq (.draw [(0, ⟨27, 7, false⟩), (1, ⟨1, 4, false⟩), (2, ⟨29, 7, false⟩), (3, ⟨1, 4, false⟩), (5, ⟨32, 7, false⟩), (6, ⟨1, 4, false⟩), (7, ⟨34, 7, false⟩), (8, ⟨1, 4, false⟩), (4, ⟨31, 10, false⟩), (9, ⟨36, 10, false⟩), (10, ⟨37, 12, false⟩), (11, ⟨38, 12, false⟩), (12, ⟨2, 2, false⟩)] [0, 1, 0, 4, 15, 0, 32, 0, 128, 511, 1023, 2047, 4095]) .leaf) .leaf)) (.seq (.draw [(0, ⟨39, 7, false⟩), (1, ⟨1, 4, false⟩), (2, ⟨41, 7, false⟩), (3, ⟨1, 4, false⟩), (6, ⟨45, 7, false⟩), (7, ⟨1, 4, false⟩), (8, ⟨47, 7, false⟩), (9, ⟨1, 4, false⟩), (4, ⟨43, 10, false⟩), (5, ⟨44, 12, false⟩), (10, ⟨49, 10, false⟩), (11, ⟨50, 12, false⟩), (12, ⟨51, 12, false⟩), (13, ⟨2, 2, false⟩)] [0, 1, 0, 4, 15, 31, 0, 64, 0, 256, 991, 2047, 4095, 8191]) .leaf)))))
    (Eq.mpr (by kernel_rfl) h)

/-- waveport/waveportlaw01.Is -/
theorem law1_Is_vc (p0 : NumV) (p1 : NumV) (V : View) (R : Value → View → Prop) 
  (h :
    CallV Try.prog 74 #[p0.val] V fun v V1 => ∃ r1 : ByteArray, v = .string r1 ∧ -- (num.Num).Text
    CallV Try.prog 81 #[p1.val] V1 fun v V2 => ∃ r2 : ByteArray, v = .string r2 ∧ -- waveportref01.Text
    R (.bool (ByteArray.toList r1 == ByteArray.toList r2)) V2) :
  CallV Try.prog 35 #[p0.val, p1.val] V R :=
  calls_of_vc (Shp := Shp) hmixed Try.func35 (c := Try.f35.body.getD .skip) (args := [p0.val, p1.val]) (by kernel_rfl)
    (.seq (.reg [⟨2, 3, false⟩, ⟨3, 3, false⟩, ⟨4, 2, false⟩]) (.seq (.draw [(0, ⟨2, 4, false⟩), (2, ⟨3, 4, false⟩), (1, ⟨6, 10, false⟩), (3, ⟨8, 10, false⟩), (4, ⟨9, 0, false⟩), (5, ⟨4, 2, false⟩)] [0, 1, 0, 7, 15, 31]) .leaf))
    (Eq.mpr (by kernel_rfl) h)

structure L_law1_AreAll_0 where
  t14 : Int
/-- waveport/waveportlaw01.AreAll -/
theorem law1_AreAll_vc (p0 : Sl) (p1 : Sl) (V : View) (R : Value → View → Prop) (I_law1_AreAll_0 : Unit → L_law1_AreAll_0 → View → Prop) (mu_law1_AreAll_0 : Unit → L_law1_AreAll_0 → View → Nat)
  (h :
    ((((p0.len : Int) : Int) != (p1.len : Int)) = true →
      R (.bool false) V) ∧
    ((((p0.len : Int) : Int) != (p1.len : Int)) = false →
      I_law1_AreAll_0 () (L_law1_AreAll_0.mk 0) V ∧
    (∀ (x2 : L_law1_AreAll_0) (V1 : View), View.le V V1 → I_law1_AreAll_0 () x2 V1 →
      ((decide ((x2.t14 : Int) < (p0.len : Int))) = true →
        ((0 : Int) ≤ x2.t14 ∧ (x2.t14 : Int) < (p0.len : Nat) ∧ Option.isSome p0.a = true) ∧
      ∃ x3 : NumV, View.has V1 (Option.map (fun q => Addr.add q (Int.toNat x2.t14 * 5)) p0.a) (x3.val).cells.toList ∧ Option.isSome (Option.map (fun q => Addr.add q (Int.toNat x2.t14 * 5)) p0.a) = true ∧
      ((0 : Int) ≤ x2.t14 ∧ (x2.t14 : Int) < (p1.len : Nat) ∧ Option.isSome p1.a = true) ∧
      ∃ x4 : NumV, View.has V1 (Option.map (fun q => Addr.add q (Int.toNat x2.t14 * 5)) p1.a) (x4.val).cells.toList ∧ Option.isSome (Option.map (fun q => Addr.add q (Int.toNat x2.t14 * 5)) p1.a) = true ∧
      CallV Try.prog 35 #[x3.val, x4.val] V1 fun v V2 => ∃ r1 : Bool, v = .bool r1 ∧ -- waveportlaw01.Is
      ((!r1) = true →
        R (.bool false) V2) ∧
      ((!r1) = false →
        I_law1_AreAll_0 () (L_law1_AreAll_0.mk (IntKind.i64.wrap (x2.t14 + 1))) V2 ∧ mu_law1_AreAll_0 () (L_law1_AreAll_0.mk (IntKind.i64.wrap (x2.t14 + 1))) V2 < mu_law1_AreAll_0 () x2 V1)) ∧
      ((decide ((x2.t14 : Int) < (p0.len : Int))) = false →
        R (.bool true) V1)))) :
  CallV Try.prog 71 #[p0.v, p1.v] V R :=
  calls_of_vc (Shp := Shp) hmixed Try.func71 (c := Try.f71.body.getD .skip) (args := [p0.v, p1.v]) (by kernel_rfl)
    (.seq (.reg [⟨4, 2, false⟩]) (.seq (.seq (.reg [⟨7, 2, false⟩, ⟨8, 0, false⟩, ⟨9, 2, false⟩, ⟨10, 0, false⟩, ⟨11, 0, false⟩]) (.cond (.seq (.reg [⟨4, 2, false⟩]) .leaf) .leaf)) (.seq (.seq (.reg [⟨12, 2, false⟩, ⟨13, 0, false⟩, ⟨14, 2, false⟩]) (.block (.loop Unit L_law1_AreAll_0 (fun _ => ()) (fun c x => { tm := spT 27 0 [(1, .val (p1.v)), (12, .val (p0.v)), (13, .val (.int .i64 (p0.len : Int))), (14, .val (.int .i64 x.t14))], own := spO 27 0 [] }) I_law1_AreAll_0 mu_law1_AreAll_0 (.seq (.reg [⟨15, 0, false⟩]) (.seq (.cond .leaf .leaf) (.seq (.block (.seq (.reg [⟨16, 2, false⟩, ⟨17, 7, false⟩, ⟨18, 5, false⟩, ⟨6, 3, false⟩, ⟨5, 2, false⟩, ⟨6, 6, false⟩]) (.seq (.draw [(0, ⟨6, 4, false⟩), (1, ⟨20, 2, false⟩), (2, ⟨21, 2, false⟩), (3, ⟨22, 7, false⟩), (4, ⟨23, 5, false⟩), (5, ⟨24, 10, false⟩), (6, ⟨25, 0, false⟩)] [0, 0, 0, 6, 14, 31, 63]) (.cond (.seq (.reg [⟨4, 2, false⟩]) .leaf) .leaf)))) (.reg [⟨26, 0, false⟩, ⟨14, 2, false⟩]))))))) (.seq (.reg [⟨4, 2, false⟩]) .leaf))))
    (Eq.mpr (by kernel_rfl) (show ((((p0.len : Int) : Int) != (p1.len : Int)) = true →
      R (.bool false) V) ∧
    ((((p0.len : Int) : Int) != (p1.len : Int)) = false →
      (∃ x1 : L_law1_AreAll_0, ((SV.val (p1.v) = SV.val (p1.v) ∧ SV.val (p0.v) = SV.val (p0.v) ∧ SV.val (.int .i64 (p0.len : Int)) = SV.val (.int .i64 (p0.len : Int)) ∧ SV.val (.int .i64 0) = SV.val (.int .i64 x1.t14) ∧ True) ∧ (True)) ∧ I_law1_AreAll_0 () x1 V) ∧
    (∀ (x2 : L_law1_AreAll_0) (V1 : View), View.le V V1 → I_law1_AreAll_0 () x2 V1 →
      ((decide ((x2.t14 : Int) < (p0.len : Int))) = true →
        ((0 : Int) ≤ x2.t14 ∧ (x2.t14 : Int) < (p0.len : Nat) ∧ Option.isSome p0.a = true) ∧
      ∃ x3 : NumV, View.has V1 (Option.map (fun q => Addr.add q (Int.toNat x2.t14 * 5)) p0.a) (x3.val).cells.toList ∧ Option.isSome (Option.map (fun q => Addr.add q (Int.toNat x2.t14 * 5)) p0.a) = true ∧
      ((0 : Int) ≤ x2.t14 ∧ (x2.t14 : Int) < (p1.len : Nat) ∧ Option.isSome p1.a = true) ∧
      ∃ x4 : NumV, View.has V1 (Option.map (fun q => Addr.add q (Int.toNat x2.t14 * 5)) p1.a) (x4.val).cells.toList ∧ Option.isSome (Option.map (fun q => Addr.add q (Int.toNat x2.t14 * 5)) p1.a) = true ∧
      CallV Try.prog 35 #[x3.val, x4.val] V1 fun v V2 => ∃ r1 : Bool, v = .bool r1 ∧ -- waveportlaw01.Is
      ((!r1) = true →
        R (.bool false) V2) ∧
      ((!r1) = false →
        ∃ x5 : L_law1_AreAll_0, ((SV.val (p1.v) = SV.val (p1.v) ∧ SV.val (p0.v) = SV.val (p0.v) ∧ SV.val (.int .i64 (p0.len : Int)) = SV.val (.int .i64 (p0.len : Int)) ∧ SV.val (.int .i64 (IntKind.i64.wrap (x2.t14 + 1))) = SV.val (.int .i64 x5.t14) ∧ True) ∧ (True)) ∧ I_law1_AreAll_0 () x5 V2 ∧ mu_law1_AreAll_0 () x5 V2 < mu_law1_AreAll_0 () x2 V1)) ∧
      ((decide ((x2.t14 : Int) < (p0.len : Int))) = false →
        R (.bool true) V1))) from ⟨fun h13 => (h.1 h13), fun h13 => ⟨⟨(L_law1_AreAll_0.mk 0), ⟨⟨rfl, rfl, rfl, rfl, trivial⟩, trivial⟩, (h.2 h13).1⟩, fun x2 V1 h11 h12 => ⟨fun h10 => ⟨(((h.2 h13).2 x2 V1 h11 h12).1 h10).1, (match (((h.2 h13).2 x2 V1 h11 h12).1 h10).2 with | ⟨x3, h8, h9, h7⟩ => ⟨x3, h8, h9, ⟨h7.1, (match h7.2 with | ⟨x4, h5, h6, h4⟩ => ⟨x4, h5, h6, (CallV.mono h4 (fun _ _ _ ⟨r1, h3, h2⟩ => ⟨r1, h3, ⟨fun h1 => (h2.1 h1), fun h1 => ⟨(L_law1_AreAll_0.mk (IntKind.i64.wrap (x2.t14 + 1))), ⟨⟨rfl, rfl, rfl, rfl, trivial⟩, trivial⟩, (h2.2 h1).1, (h2.2 h1).2⟩⟩⟩))⟩)⟩⟩)⟩, fun h10 => (((h.2 h13).2 x2 V1 h11 h12).2 h10)⟩⟩⟩))

/-- waveport/waveportlaw07.answers -/
theorem waveportlaw07_answers_vc (p0 : Sl) (p1 : Int) (p2 : Sl) (p3 : Int) (V : View) (R : Value → View → Prop) 
  (h :
    (((p1 : Int) == p3) = true →
    CallV Try.prog 71 #[p0.v, p2.v] V fun v V1 => ∃ r1 : Bool, v = .bool r1 ∧ -- waveportlaw01.AreAll
    R (.bool r1) V1) ∧
    (((p1 : Int) == p3) = false →
    R (.bool false) V)) :
  CallV Try.prog 22 #[p0.v, .int .i64 p1, p2.v, .int .i64 p3] V R :=
  calls_of_vc (Shp := Shp) hmixed Try.func22 (c := Try.f22.body.getD .skip) (args := [p0.v, .int .i64 p1, p2.v, .int .i64 p3]) (by kernel_rfl)
    (.seq (.reg [⟨8, 2, false⟩]) (.seq (.reg [⟨9, 2, false⟩, ⟨10, 2, false⟩, ⟨11, 0, false⟩, ⟨12, 2, true⟩, ⟨13, 2, false⟩, ⟨14, 2, false⟩, ⟨15, 10, false⟩, ⟨16, 2, false⟩, ⟨8, 2, false⟩]) .leaf))
    (Eq.mpr (by kernel_rfl) h)

end Go.Proofs.Ytcapadojlaojkaa

set_option maxRecDepth 100000
set_option maxHeartbeats 4000000
namespace Go.Proofs.Ytcapadojlaojkaa
open Go Go.Vc Go.Proofs

structure L_ref1_NatGcd_0 where
  t0 : Sl
  t1 : Sl
/-- waveport/waveportref01.NatGcd -/
theorem ref1_NatGcd_vc (p0 : Sl) (p1 : Sl) (V : View) (R : Value → View → Prop) (I_ref1_NatGcd_0 : Unit → L_ref1_NatGcd_0 → View → Prop) (mu_ref1_NatGcd_0 : Unit → L_ref1_NatGcd_0 → View → Nat)
  (h :
    I_ref1_NatGcd_0 () (L_ref1_NatGcd_0.mk p0 p1) V ∧
    (∀ (x2 : L_ref1_NatGcd_0) (V1 : View), View.le V V1 → I_ref1_NatGcd_0 () x2 V1 →
      ((decide (((x2.t1.len : Int) : Int) > 0)) = true →
        CallV Try.prog 138 #[x2.t0.v, x2.t1.v] V1 fun v V2 => ∃ (r1 : Sl) (r2 : Sl), v = .tuple #[r1.v, r2.v] ∧ -- waveportref01.NatDiv
      I_ref1_NatGcd_0 () (L_ref1_NatGcd_0.mk x2.t1 r2) V2 ∧ mu_ref1_NatGcd_0 () (L_ref1_NatGcd_0.mk x2.t1 r2) V2 < mu_ref1_NatGcd_0 () x2 V1) ∧
      ((decide (((x2.t1.len : Int) : Int) > 0)) = false →
        R (x2.t0.v) V1))) :
  CallV Try.prog 137 #[p0.v, p1.v] V R :=
  calls_of_vc (Shp := Shp) hmixed Try.func137 (c := Try.f137.body.getD .skip) (args := [p0.v, p1.v]) (by kernel_rfl)
    (.seq (.reg [⟨4, 2, false⟩]) (.seq (.block (.loop Unit L_ref1_NatGcd_0 (fun _ => ()) (fun c x => { tm := spT 19 0 [(0, .val (x.t0.v)), (1, .val (x.t1.v))], own := spO 19 0 [] }) I_ref1_NatGcd_0 mu_ref1_NatGcd_0 (.seq (.seq (.reg [⟨7, 2, false⟩, ⟨8, 0, false⟩, ⟨9, 0, false⟩]) (.cond .leaf .leaf)) (.block (.seq (.reg [⟨11, 2, false⟩, ⟨12, 2, false⟩, ⟨13, 10, false⟩, ⟨10, 2, false⟩, ⟨14, 0, false⟩, ⟨15, 0, false⟩, ⟨5, 2, false⟩, ⟨6, 2, false⟩]) (.reg [⟨16, 2, false⟩, ⟨17, 2, false⟩, ⟨0, 2, false⟩, ⟨1, 2, false⟩])))))) (.seq (.reg [⟨18, 2, false⟩, ⟨4, 2, false⟩]) .leaf)))
    (Eq.mpr (by kernel_rfl) (show (∃ x1 : L_ref1_NatGcd_0, ((SV.val (p0.v) = SV.val (x1.t0.v) ∧ SV.val (p1.v) = SV.val (x1.t1.v) ∧ True) ∧ (True)) ∧ I_ref1_NatGcd_0 () x1 V) ∧
    (∀ (x2 : L_ref1_NatGcd_0) (V1 : View), View.le V V1 → I_ref1_NatGcd_0 () x2 V1 →
      ((decide (((x2.t1.len : Int) : Int) > 0)) = true →
        CallV Try.prog 138 #[x2.t0.v, x2.t1.v] V1 fun v V2 => ∃ (r1 : Sl) (r2 : Sl), v = .tuple #[r1.v, r2.v] ∧ -- waveportref01.NatDiv
      ∃ x3 : L_ref1_NatGcd_0, ((SV.val (x2.t1.v) = SV.val (x3.t0.v) ∧ SV.val (r2.v) = SV.val (x3.t1.v) ∧ True) ∧ (True)) ∧ I_ref1_NatGcd_0 () x3 V2 ∧ mu_ref1_NatGcd_0 () x3 V2 < mu_ref1_NatGcd_0 () x2 V1) ∧
      ((decide (((x2.t1.len : Int) : Int) > 0)) = false →
        R (x2.t0.v) V1)) from ⟨⟨(L_ref1_NatGcd_0.mk p0 p1), ⟨⟨rfl, rfl, trivial⟩, trivial⟩, h.1⟩, fun x2 V1 h4 h5 => ⟨fun h3 => (CallV.mono ((h.2 x2 V1 h4 h5).1 h3) (fun _ _ _ ⟨r1, r2, h2, h1⟩ => ⟨r1, r2, h2, ⟨(L_ref1_NatGcd_0.mk x2.t1 r2), ⟨⟨rfl, rfl, trivial⟩, trivial⟩, h1.1, h1.2⟩⟩)), fun h3 => ((h.2 x2 V1 h4 h5).2 h3)⟩⟩))

/-- waveport/waveportref01.signed -/
theorem ref1_signed_vc (p0 : Bool) (p1 : Sl) (V : View) (R : Value → View → Prop) 
  (h :
    (p0 = true →
    R ((WhV.mk (decide (((p1.len : Int) : Int) > 0)) p1).val) V) ∧
    (p0 = false →
    R ((WhV.mk false p1).val) V)) :
  CallV Try.prog 136 #[.bool p0, p1.v] V R :=
  calls_of_vc (Shp := Shp) hmixed Try.func136 (c := Try.f136.body.getD .skip) (args := [.bool p0, p1.v]) (by kernel_rfl)
    (.seq (.reg [⟨4, 3, false⟩]) (.seq (.reg [⟨5, 2, false⟩, ⟨6, 2, true⟩, ⟨7, 2, false⟩, ⟨8, 0, false⟩, ⟨9, 0, false⟩, ⟨10, 2, false⟩, ⟨11, 2, false⟩, ⟨12, 0, false⟩, ⟨4, 6, false⟩]) .leaf))
    (Eq.mpr (by kernel_rfl) h)

/-- waveport/waveportref01.IntOf -/
theorem ref1_IntOf_vc (p0 : Int) (V : View) (R : Value → View → Prop) 
  (h :
    ((decide ((p0 : Int) < 0)) = true →
      CallV Try.prog 135 #[.int .u64 (IntKind.u64.wrap (IntKind.i64.wrap (0 - p0)))] V fun v V1 => ∃ r1 : Sl, v = r1.v ∧ -- waveportref01.NatOf
      R ((WhV.mk true r1).val) V1) ∧
    ((decide ((p0 : Int) < 0)) = false →
      CallV Try.prog 135 #[.int .u64 (IntKind.u64.wrap p0)] V fun v V2 => ∃ r2 : Sl, v = r2.v ∧ -- waveportref01.NatOf
    R ((WhV.mk false r2).val) V2)) :
  CallV Try.prog 95 #[.int .i64 p0] V R :=
  calls_of_vc (Shp := Shp) hmixed Try.func95 (c := Try.f95.body.getD .skip) (args := [.int .i64 p0]) (by kernel_rfl)
    (.seq (.reg [⟨2, 3, false⟩]) (.seq (.seq (.reg [⟨3, 2, false⟩, ⟨4, 0, false⟩]) (.cond (.seq (.reg [⟨5, 2, false⟩, ⟨6, 0, false⟩, ⟨7, 0, false⟩, ⟨8, 10, false⟩, ⟨9, 0, false⟩, ⟨2, 6, false⟩]) .leaf) .leaf)) (.seq (.reg [⟨10, 2, false⟩, ⟨11, 0, false⟩, ⟨12, 10, false⟩, ⟨13, 0, false⟩, ⟨2, 6, false⟩]) .leaf)))
    (Eq.mpr (by kernel_rfl) h)

/-- waveport/waveportref01.IntNeg -/
theorem ref1_IntNeg_vc (p0 : WhV) (V : View) (R : Value → View → Prop) 
  (h :
    CallV Try.prog 136 #[.bool (!p0.neg), p0.mag.v] V fun v V1 => ∃ r1 : WhV, v = r1.val ∧ -- waveportref01.signed
    R (r1.val) V1) :
  CallV Try.prog 96 #[p0.val] V R :=
  calls_of_vc (Shp := Shp) hmixed Try.func96 (c := Try.f96.body.getD .skip) (args := [p0.val]) (by kernel_rfl)
    (.seq (.reg [⟨1, 3, false⟩, ⟨2, 3, false⟩]) (.seq (.reg [⟨3, 7, false⟩, ⟨1, 4, false⟩, ⟨5, 0, false⟩, ⟨6, 7, false⟩, ⟨1, 4, false⟩, ⟨8, 10, false⟩, ⟨2, 6, false⟩]) .leaf))
    (Eq.mpr (by kernel_rfl) h)

/-- waveport/waveportref01.IntSub -/
theorem ref1_IntSub_vc (p0 : WhV) (p1 : WhV) (V : View) (R : Value → View → Prop) 
  (h :
    CallV Try.prog 96 #[p1.val] V fun v V1 => ∃ r1 : WhV, v = r1.val ∧ -- waveportref01.IntNeg
    CallV Try.prog 100 #[p0.val, r1.val] V1 fun v V2 => ∃ r2 : WhV, v = r2.val ∧ -- waveportref01.IntAdd
    R (r2.val) V2) :
  CallV Try.prog 98 #[p0.val, p1.val] V R :=
  calls_of_vc (Shp := Shp) hmixed Try.func98 (c := Try.f98.body.getD .skip) (args := [p0.val, p1.val]) (by kernel_rfl)
    (.seq (.reg [⟨2, 3, false⟩, ⟨3, 3, false⟩, ⟨4, 3, false⟩]) (.seq (.draw [(0, ⟨2, 4, false⟩), (1, ⟨3, 4, false⟩), (2, ⟨7, 10, false⟩), (3, ⟨8, 10, false⟩), (4, ⟨4, 6, false⟩)] [0, 0, 2, 7, 15]) .leaf))
    (Eq.mpr (by kernel_rfl) h)

/-- waveport/waveportref01.IntMul -/
theorem ref1_IntMul_vc (p0 : WhV) (p1 : WhV) (V : View) (R : Value → View → Prop) 
  (h :
    CallV Try.prog 101 #[p0.mag.v, p1.mag.v] V fun v V1 => ∃ r1 : Sl, v = r1.v ∧ -- waveportref01.NatMul
    CallV Try.prog 136 #[.bool (!(p0.neg == p1.neg)), r1.v] V1 fun v V2 => ∃ r2 : WhV, v = r2.val ∧ -- waveportref01.signed
    R (r2.val) V2) :
  CallV Try.prog 99 #[p0.val, p1.val] V R :=
  calls_of_vc (Shp := Shp) hmixed Try.func99 (c := Try.f99.body.getD .skip) (args := [p0.val, p1.val]) (by kernel_rfl)
    (.seq (.reg [⟨2, 3, false⟩, ⟨3, 3, false⟩, ⟨4, 3, false⟩]) (.seq (.draw [(0, ⟨5, 7, false⟩), (1, ⟨2, 4, false⟩), (2, ⟨7, 7, false⟩), (3, ⟨3, 4, false⟩), (4, ⟨9, 0, false⟩), (5, ⟨10, 7, false⟩), (6, ⟨2, 4, false⟩), (7, ⟨12, 7, false⟩), (8, ⟨3, 4, false⟩), (9, ⟨14, 10, false⟩), (10, ⟨15, 10, false⟩), (11, ⟨4, 6, false⟩)] [0, 1, 0, 4, 15, 0, 32, 0, 128, 480, 1023, 2047]) .leaf))
    (Eq.mpr (by kernel_rfl) h)

/-- waveport/waveportref01.IntAdd -/
theorem ref1_IntAdd_vc (p0 : WhV) (p1 : WhV) (V : View) (R : Value → View → Prop) 
  (h :
    ((p0.neg == p1.neg) = true →
      CallV Try.prog 139 #[p0.mag.v, p1.mag.v] V fun v V1 => ∃ r1 : Sl, v = r1.v ∧ -- waveportref01.NatAdd
      CallV Try.prog 136 #[.bool p0.neg, r1.v] V1 fun v V2 => ∃ r2 : WhV, v = r2.val ∧ -- waveportref01.signed
      R (r2.val) V2) ∧
    ((p0.neg == p1.neg) = false →
      CallV Try.prog 140 #[p0.mag.v, p1.mag.v] V fun v V3 => ∃ r3 : Int, v = .int .i64 r3 ∧ -- waveportref01.NatCmp
    ((decide ((r3 : Int) ≥ 0)) = true →
      CallV Try.prog 141 #[p0.mag.v, p1.mag.v] V3 fun v V4 => ∃ r4 : Sl, v = r4.v ∧ -- waveportref01.NatSub
      CallV Try.prog 136 #[.bool p0.neg, r4.v] V4 fun v V5 => ∃ r5 : WhV, v = r5.val ∧ -- waveportref01.signed
      R (r5.val) V5) ∧
    ((decide ((r3 : Int) ≥ 0)) = false →
      CallV Try.prog 141 #[p1.mag.v, p0.mag.v] V3 fun v V6 => ∃ r6 : Sl, v = r6.v ∧ -- waveportref01.NatSub
    CallV Try.prog 136 #[.bool p1.neg, r6.v] V6 fun v V7 => ∃ r7 : WhV, v = r7.val ∧ -- waveportref01.signed
    R (r7.val) V7))) :
  CallV Try.prog 100 #[p0.val, p1.val] V R :=
  calls_of_vc (Shp := Shp) hmixed Try.func100 (c := Try.f100.body.getD .skip) (args := [p0.val, p1.val]) (by kernel_rfl)
    (.seq (.reg [⟨2, 3, false⟩, ⟨3, 3, false⟩, ⟨4, 3, false⟩]) (.seq (.seq (.reg [⟨5, 7, false⟩, ⟨2, 4, false⟩, ⟨7, 7, false⟩, ⟨3, 4, false⟩, ⟨9, 0, false⟩]) (.cond (.seq (.draw [(0, ⟨10, 7, false⟩), (1, ⟨2, 4, false⟩), (2, ⟨12, 7, false⟩), (3, ⟨2, 4, false⟩), (4, ⟨14, 7, false⟩), (5, ⟨3, 4, false⟩), (6, ⟨16, 10, false⟩), (7, ⟨17, 10, false⟩), (8, ⟨4, 6, false⟩)] [0, 1, 0, 4, 0, 16, 60, 127, 255]) .leaf) .leaf)) (.seq (.seq (.reg [⟨18, 7, false⟩, ⟨2, 4, false⟩, ⟨20, 7, false⟩, ⟨3, 4, false⟩, ⟨22, 10, false⟩, ⟨23, 0, false⟩]) (.cond (.seq (.draw [(0, ⟨24, 7, false⟩), (1, ⟨2, 4, false⟩), (2, ⟨26, 7, false⟩), (3, ⟨2, 4, false⟩), (4, ⟨28, 7, false⟩), (5, ⟨3, 4, false⟩), (6, ⟨30, 10, false⟩), (7, ⟨31, 10, false⟩), (8, ⟨4, 6, false⟩)] [0, 1, 0, 4, 0, 16, 60, 127, 255]) .leaf) .leaf)) (.seq (.draw [(0, ⟨32, 7, false⟩), (1, ⟨3, 4, false⟩), (2, ⟨34, 7, false⟩), (3, ⟨3, 4, false⟩), (4, ⟨36, 7, false⟩), (5, ⟨2, 4, false⟩), (6, ⟨38, 10, false⟩), (7, ⟨39, 10, false⟩), (8, ⟨4, 6, false⟩)] [0, 1, 0, 4, 0, 16, 60, 127, 255]) .leaf))))
    (Eq.mpr (by kernel_rfl) h)

/-- waveport/waveportref01.Make -/
theorem ref1_Make_vc (p0 : WhV) (p1 : WhV) (p2 : Sl) (V : View) (R : Value → View → Prop) 
  (h :
    CallV Try.prog 137 #[p0.mag.v, p1.mag.v] V fun v V1 => ∃ r1 : Sl, v = r1.v ∧ -- waveportref01.NatGcd
    CallV Try.prog 137 #[r1.v, p2.v] V1 fun v V2 => ∃ r2 : Sl, v = r2.v ∧ -- waveportref01.NatGcd
    ((((r2.len : Int) : Int) == 1) = true →
    ((0 : Int) ≤ 0 ∧ (0 : Int) < (r2.len : Nat) ∧ Option.isSome r2.a = true) ∧
    ∃ x1 : Int, View.load V2 (Option.map (fun q => Addr.add q (Int.toNat 0 * 1)) r2.a) = some (.int .u32 x1) ∧
    (((x1 : Int) == 1) = true →
      R ((NumV.mk p0 p1 p2).val) V2) ∧
    (((x1 : Int) == 1) = false →
      CallV Try.prog 138 #[p0.mag.v, r2.v] V2 fun v V3 => ∃ (r3 : Sl) (r4 : Sl), v = .tuple #[r3.v, r4.v] ∧ -- waveportref01.NatDiv
    CallV Try.prog 138 #[p1.mag.v, r2.v] V3 fun v V4 => ∃ (r5 : Sl) (r6 : Sl), v = .tuple #[r5.v, r6.v] ∧ -- waveportref01.NatDiv
    CallV Try.prog 138 #[p2.v, r2.v] V4 fun v V5 => ∃ (r7 : Sl) (r8 : Sl), v = .tuple #[r7.v, r8.v] ∧ -- waveportref01.NatDiv
    CallV Try.prog 136 #[.bool p0.neg, r3.v] V5 fun v V6 => ∃ r9 : WhV, v = r9.val ∧ -- waveportref01.signed
    CallV Try.prog 136 #[.bool p1.neg, r5.v] V6 fun v V7 => ∃ r10 : WhV, v = r10.val ∧ -- waveportref01.signed
    R ((NumV.mk r9 r10 r7).val) V7)) ∧
    ((((r2.len : Int) : Int) == 1) = false →
    (false = true →
      R ((NumV.mk p0 p1 p2).val) V2) ∧
    (false = false →
      CallV Try.prog 138 #[p0.mag.v, r2.v] V2 fun v V8 => ∃ (r11 : Sl) (r12 : Sl), v = .tuple #[r11.v, r12.v] ∧ -- waveportref01.NatDiv
    CallV Try.prog 138 #[p1.mag.v, r2.v] V8 fun v V9 => ∃ (r13 : Sl) (r14 : Sl), v = .tuple #[r13.v, r14.v] ∧ -- waveportref01.NatDiv
    CallV Try.prog 138 #[p2.v, r2.v] V9 fun v V10 => ∃ (r15 : Sl) (r16 : Sl), v = .tuple #[r15.v, r16.v] ∧ -- waveportref01.NatDiv
    CallV Try.prog 136 #[.bool p0.neg, r11.v] V10 fun v V11 => ∃ r17 : WhV, v = r17.val ∧ -- waveportref01.signed
    CallV Try.prog 136 #[.bool p1.neg, r13.v] V11 fun v V12 => ∃ r18 : WhV, v = r18.val ∧ -- waveportref01.signed
    R ((NumV.mk r17 r18 r15).val) V12))) :
  CallV Try.prog 97 #[p0.val, p1.val, p2.v] V R :=
  calls_of_vc (Shp := Shp) hmixed Try.func97 (c := Try.f97.body.getD .skip) (args := [p0.val, p1.val, p2.v]) (by kernel_rfl)
    (.seq (.reg [⟨3, 3, false⟩, ⟨4, 3, false⟩, ⟨6, 3, false⟩]) (.seq (.reg [⟨14, 7, false⟩, ⟨3, 4, false⟩, ⟨16, 7, false⟩, ⟨4, 4, false⟩, ⟨18, 10, false⟩, ⟨19, 2, false⟩, ⟨20, 10, false⟩, ⟨7, 2, false⟩]) (.seq (.seq (.reg [⟨21, 2, false⟩, ⟨22, 0, false⟩, ⟨23, 0, false⟩, ⟨24, 2, true⟩, ⟨25, 2, false⟩, ⟨26, 7, false⟩, ⟨27, 5, false⟩, ⟨28, 0, false⟩, ⟨29, 2, false⟩]) (.cond (.seq (.reg [⟨3, 4, false⟩, ⟨4, 4, false⟩, ⟨32, 2, false⟩, ⟨33, 0, false⟩, ⟨6, 6, false⟩]) .leaf) .leaf)) (.seq (.reg [⟨35, 7, false⟩, ⟨3, 4, false⟩, ⟨37, 2, false⟩, ⟨38, 10, false⟩, ⟨34, 2, false⟩, ⟨39, 0, false⟩, ⟨40, 0, false⟩, ⟨8, 2, false⟩, ⟨9, 2, false⟩]) (.seq (.reg [⟨42, 7, false⟩, ⟨4, 4, false⟩, ⟨44, 2, false⟩, ⟨45, 10, false⟩, ⟨41, 2, false⟩, ⟨46, 0, false⟩, ⟨47, 0, false⟩, ⟨10, 2, false⟩, ⟨11, 2, false⟩]) (.seq (.reg [⟨49, 2, false⟩, ⟨50, 2, false⟩, ⟨51, 10, false⟩, ⟨48, 2, false⟩, ⟨52, 0, false⟩, ⟨53, 0, false⟩, ⟨12, 2, false⟩, ⟨13, 2, false⟩]) (.seq (.draw [(0, ⟨54, 7, false⟩), (1, ⟨3, 4, false⟩), (2, ⟨56, 2, false⟩), (4, ⟨58, 7, false⟩), (5, ⟨4, 4, false⟩), (6, ⟨60, 2, false⟩), (8, ⟨62, 2, false⟩), (3, ⟨57, 10, false⟩), (7, ⟨61, 10, false⟩), (9, ⟨63, 0, false⟩), (10, ⟨6, 6, false⟩)] [0, 1, 0, 7, 0, 16, 0, 127, 0, 511, 1023]) .leaf)))))))
    (Eq.mpr (by kernel_rfl) h)

/-- waveport/waveportref01.Whole -/
theorem ref1_Whole_vc (p0 : Int) (V : View) (R : Value → View → Prop) 
  (h :
    CallV Try.prog 95 #[.int .i64 p0] V fun v V1 => ∃ r1 : WhV, v = r1.val ∧ -- waveportref01.IntOf
    ∀ (b1 : Nat) (V2 : View), View.le V1 V2 → View.Fin V2 → V2 b1 = some #[.int .u32 1] →
    R ((NumV.mk r1 (WhV.mk false (Sl.mk none 0 0)) (Sl.mk (some (Addr.mk b1 0 none)) 1 1)).val) V2) :
  CallV Try.prog 64 #[.int .i64 p0] V R :=
  calls_of_vc (Shp := Shp) hmixed Try.func64 (c := Try.f64.body.getD .skip) (args := [.int .i64 p0]) (by kernel_rfl)
    (.seq (.reg [⟨2, 3, false⟩]) (.seq (.reg [⟨3, 2, false⟩, ⟨4, 10, false⟩, ⟨5, 0, false⟩, ⟨6, 11, false⟩, ⟨7, 0, false⟩, ⟨2, 6, false⟩]) .leaf))
    (Eq.mpr (by kernel_rfl) h)

/-- waveport/waveportref01.New -/
theorem ref1_New_vc (p0 : Int) (p1 : Int) (p2 : Int) (V : View) (R : Value → View → Prop) 
  (h :
    (((p2 : Int) == 0) = true →
      CallV Try.prog 64 #[.int .i64 0] V fun v V1 => ∃ r1 : NumV, v = r1.val ∧ -- waveportref01.Whole
      R (.tuple #[r1.val, .int .i64 3]) V1) ∧
    (((p2 : Int) == 0) = false →
      CallV Try.prog 95 #[.int .i64 p2] V fun v V2 => ∃ r2 : WhV, v = r2.val ∧ -- waveportref01.IntOf
    CallV Try.prog 95 #[.int .i64 p0] V2 fun v V3 => ∃ r3 : WhV, v = r3.val ∧ -- waveportref01.IntOf
    CallV Try.prog 95 #[.int .i64 p1] V3 fun v V4 => ∃ r4 : WhV, v = r4.val ∧ -- waveportref01.IntOf
    (r2.neg = true →
      CallV Try.prog 96 #[r3.val] V4 fun v V5 => ∃ r5 : WhV, v = r5.val ∧ -- waveportref01.IntNeg
      CallV Try.prog 96 #[r4.val] V5 fun v V6 => ∃ r6 : WhV, v = r6.val ∧ -- waveportref01.IntNeg
      CallV Try.prog 97 #[r5.val, r6.val, r2.mag.v] V6 fun v V7 => ∃ r7 : NumV, v = r7.val ∧ -- waveportref01.Make
    R (.tuple #[r7.val, .int .i64 0]) V7) ∧
    (r2.neg = false →
      CallV Try.prog 97 #[r3.val, r4.val, r2.mag.v] V4 fun v V8 => ∃ r8 : NumV, v = r8.val ∧ -- waveportref01.Make
    R (.tuple #[r8.val, .int .i64 0]) V8))) :
  CallV Try.prog 63 #[.int .i64 p0, .int .i64 p1, .int .i64 p2] V R :=
  calls_of_vc (Shp := Shp) hmixed Try.func63 (c := Try.f63.body.getD .skip) (args := [.int .i64 p0, .int .i64 p1, .int .i64 p2]) (by kernel_rfl)
    (.seq (.reg [⟨6, 3, false⟩, ⟨7, 2, false⟩]) (.seq (.seq (.reg [⟨11, 2, false⟩, ⟨12, 0, false⟩]) (.cond (.seq (.reg [⟨13, 10, false⟩, ⟨6, 6, false⟩, ⟨7, 2, false⟩]) .leaf) .leaf)) (.seq (.reg [⟨14, 2, false⟩, ⟨15, 10, false⟩, ⟨8, 3, false⟩, ⟨8, 6, false⟩]) (.seq (.reg [⟨16, 2, false⟩, ⟨17, 10, false⟩, ⟨18, 2, false⟩, ⟨19, 10, false⟩, ⟨9, 3, false⟩, ⟨10, 3, false⟩, ⟨9, 6, false⟩, ⟨10, 6, false⟩]) (.seq (.seq (.reg [⟨20, 7, false⟩, ⟨8, 4, false⟩]) (.cond (.draw [(0, ⟨9, 4, false⟩), (2, ⟨10, 4, false⟩), (1, ⟨23, 10, false⟩), (3, ⟨25, 10, false⟩), (4, ⟨9, 6, false⟩), (5, ⟨10, 6, false⟩)] [0, 1, 0, 7, 15, 31]) .leaf)) (.seq (.reg [⟨9, 4, false⟩, ⟨10, 4, false⟩, ⟨28, 7, false⟩, ⟨8, 4, false⟩, ⟨30, 10, false⟩, ⟨6, 6, false⟩, ⟨7, 2, false⟩]) .leaf))))))
    (Eq.mpr (by kernel_rfl) h)

/-- waveport/waveportref01.Of -/
theorem ref1_Of_vc (p0 : RatV) (V : View) (R : Value → View → Prop) 
  (h :
    (((p0.den : Int) == 0) = true →
      CallV Try.prog 63 #[.int .i64 p0.re, .int .i64 p0.im, .int .i64 1] V fun v V1 => ∃ (r1 : NumV) (r2 : Int), v = .tuple #[r1.val, .int .i64 r2] ∧ -- waveportref01.New
    R (r1.val) V1) ∧
    (((p0.den : Int) == 0) = false →
      CallV Try.prog 63 #[.int .i64 p0.re, .int .i64 p0.im, .int .i64 p0.den] V fun v V2 => ∃ (r3 : NumV) (r4 : Int), v = .tuple #[r3.val, .int .i64 r4] ∧ -- waveportref01.New
    R (r3.val) V2)) :
  CallV Try.prog 32 #[p0.val] V R :=
  calls_of_vc (Shp := Shp) hmixed Try.func32 (c := Try.f32.body.getD .skip) (args := [p0.val]) (by kernel_rfl)
    (.seq (.reg [⟨1, 3, false⟩, ⟨2, 3, false⟩]) (.seq (.seq (.reg [⟨5, 7, false⟩, ⟨1, 4, false⟩, ⟨7, 0, false⟩]) (.cond (.reg [⟨8, 7, false⟩, ⟨1, 6, false⟩]) .leaf)) (.seq (.reg [⟨10, 7, false⟩, ⟨1, 4, false⟩, ⟨12, 7, false⟩, ⟨1, 4, false⟩, ⟨14, 7, false⟩, ⟨1, 4, false⟩, ⟨16, 10, false⟩, ⟨9, 2, false⟩, ⟨17, 0, false⟩, ⟨18, 0, false⟩, ⟨3, 3, false⟩, ⟨3, 6, false⟩, ⟨4, 2, false⟩]) (.seq (.reg [⟨3, 4, false⟩, ⟨2, 6, false⟩]) .leaf))))
    (Eq.mpr (by kernel_rfl) h)

/-- waveport/waveportref01.Add -/
theorem ref1_Add_vc (p0 : NumV) (p1 : NumV) (V : View) (R : Value → View → Prop) 
  (h :
    CallV Try.prog 99 #[p0.re.val, (WhV.mk false p1.under).val] V fun v V1 => ∃ r1 : WhV, v = r1.val ∧ -- waveportref01.IntMul
    CallV Try.prog 99 #[p1.re.val, (WhV.mk false p0.under).val] V1 fun v V2 => ∃ r2 : WhV, v = r2.val ∧ -- waveportref01.IntMul
    CallV Try.prog 100 #[r1.val, r2.val] V2 fun v V3 => ∃ r3 : WhV, v = r3.val ∧ -- waveportref01.IntAdd
    CallV Try.prog 99 #[p0.im.val, (WhV.mk false p1.under).val] V3 fun v V4 => ∃ r4 : WhV, v = r4.val ∧ -- waveportref01.IntMul
    CallV Try.prog 99 #[p1.im.val, (WhV.mk false p0.under).val] V4 fun v V5 => ∃ r5 : WhV, v = r5.val ∧ -- waveportref01.IntMul
    CallV Try.prog 100 #[r4.val, r5.val] V5 fun v V6 => ∃ r6 : WhV, v = r6.val ∧ -- waveportref01.IntAdd
    CallV Try.prog 101 #[p0.under.v, p1.under.v] V6 fun v V7 => ∃ r7 : Sl, v = r7.v ∧ -- waveportref01.NatMul
    CallV Try.prog 97 #[r3.val, r6.val, r7.v] V7 fun v V8 => ∃ r8 : NumV, v = r8.val ∧ -- waveportref01.Make
    R (r8.val) V8) :
  CallV Try.prog 80 #[p0.val, p1.val] V R :=
  calls_of_vc (Shp := Shp) hmixed Try.func80 (c := Try.f80.body.getD .skip) (args := [p0.val, p1.val]) (by kernel_rfl)
    (.seq (.reg [⟨2, 3, false⟩, ⟨3, 3, false⟩, ⟨4, 3, false⟩]) (.seq (.draw [(0, ⟨7, 7, false⟩), (1, ⟨2, 4, false⟩), (2, ⟨9, 0, false⟩), (3, ⟨10, 7, false⟩), (4, ⟨3, 4, false⟩), (5, ⟨12, 0, false⟩), (6, ⟨5, 3, false⟩), (7, ⟨6, 3, false⟩), (8, ⟨5, 6, false⟩), (9, ⟨6, 6, false⟩)] [0, 1, 3, 0, 8, 24, 0, 0, 199, 511]) (.seq (.draw [(0, ⟨13, 7, false⟩), (1, ⟨2, 4, false⟩), (2, ⟨6, 4, false⟩), (4, ⟨17, 7, false⟩), (5, ⟨3, 4, false⟩), (6, ⟨5, 4, false⟩), (9, ⟨22, 7, false⟩), (10, ⟨2, 4, false⟩), (11, ⟨6, 4, false⟩), (13, ⟨26, 7, false⟩), (14, ⟨3, 4, false⟩), (15, ⟨5, 4, false⟩), (18, ⟨31, 7, false⟩), (19, ⟨2, 4, false⟩), (20, ⟨33, 7, false⟩), (21, ⟨3, 4, false⟩), (3, ⟨16, 10, false⟩), (7, ⟨20, 10, false⟩), (8, ⟨21, 10, false⟩), (12, ⟨25, 10, false⟩), (16, ⟨29, 10, false⟩), (17, ⟨30, 10, false⟩), (22, ⟨35, 10, false⟩), (23, ⟨36, 10, false⟩), (24, ⟨4, 6, false⟩)] [0, 1, 0, 7, 0, 16, 0, 127, 255, 0, 512, 0, 4095, 0, 8192, 0, 65535, 131071, 0, 262144, 0, 1048576, 4194303, 8388607, 16777215]) .leaf)))
    (Eq.mpr (by kernel_rfl) h)

/-- waveport/waveportref01.Mul -/
theorem ref1_Mul_vc (p0 : NumV) (p1 : NumV) (V : View) (R : Value → View → Prop) 
  (h :
    CallV Try.prog 99 #[p0.re.val, p1.re.val] V fun v V1 => ∃ r1 : WhV, v = r1.val ∧ -- waveportref01.IntMul
    CallV Try.prog 99 #[p0.im.val, p1.im.val] V1 fun v V2 => ∃ r2 : WhV, v = r2.val ∧ -- waveportref01.IntMul
    CallV Try.prog 98 #[r1.val, r2.val] V2 fun v V3 => ∃ r3 : WhV, v = r3.val ∧ -- waveportref01.IntSub
    CallV Try.prog 99 #[p0.re.val, p1.im.val] V3 fun v V4 => ∃ r4 : WhV, v = r4.val ∧ -- waveportref01.IntMul
    CallV Try.prog 99 #[p0.im.val, p1.re.val] V4 fun v V5 => ∃ r5 : WhV, v = r5.val ∧ -- waveportref01.IntMul
    CallV Try.prog 100 #[r4.val, r5.val] V5 fun v V6 => ∃ r6 : WhV, v = r6.val ∧ -- waveportref01.IntAdd
    CallV Try.prog 101 #[p0.under.v, p1.under.v] V6 fun v V7 => ∃ r7 : Sl, v = r7.v ∧ -- waveportref01.NatMul
    CallV Try.prog 97 #[r3.val, r6.val, r7.v] V7 fun v V8 => ∃ r8 : NumV, v = r8.val ∧ -- waveportref01.Make
    R (r8.val) V8) :
  CallV Try.prog 65 #[p0.val, p1.val] V R :=
  calls_of_vc (Shp := Shp) hmixed Try.func65 (c := Try.f65.body.getD .skip) (args := [p0.val, p1.val]) (by kernel_rfl)
    (.seq (.reg [⟨2, 3, false⟩, ⟨3, 3, false⟩, ⟨4, 3, false⟩]) (.seq (.draw [(0, ⟨5, 7, false⟩), (1, ⟨2, 4, false⟩), (2, ⟨7, 7, false⟩), (3, ⟨3, 4, false⟩), (5, ⟨10, 7, false⟩), (6, ⟨2, 4, false⟩), (7, ⟨12, 7, false⟩), (8, ⟨3, 4, false⟩), (11, ⟨16, 7, false⟩), (12, ⟨2, 4, false⟩), (13, ⟨18, 7, false⟩), (14, ⟨3, 4, false⟩), (16, ⟨21, 7, false⟩), (17, ⟨2, 4, false⟩), (18, ⟨23, 7, false⟩), (19, ⟨3, 4, false⟩), (22, ⟨27, 7, false⟩), (23, ⟨2, 4, false⟩), (24, ⟨29, 7, false⟩), (25, ⟨3, 4, false⟩), (4, ⟨9, 10, false⟩), (9, ⟨14, 10, false⟩), (10, ⟨15, 10, false⟩), (15, ⟨20, 10, false⟩), (20, ⟨25, 10, false⟩), (21, ⟨26, 10, false⟩), (26, ⟨31, 10, false⟩), (27, ⟨32, 10, false⟩), (28, ⟨4, 6, false⟩)] [0, 1, 0, 4, 15, 0, 32, 0, 128, 511, 1023, 0, 2048, 0, 8192, 32767, 0, 65536, 0, 262144, 1048575, 2097151, 0, 4194304, 0, 16777216, 67108863, 134217727, 268435455]) .leaf))
    (Eq.mpr (by kernel_rfl) h)

/-- waveport/waveportref01.Neg -/
theorem ref1_Neg_vc (p0 : NumV) (V : View) (R : Value → View → Prop) 
  (h :
    CallV Try.prog 96 #[p0.re.val] V fun v V1 => ∃ r1 : WhV, v = r1.val ∧ -- waveportref01.IntNeg
    CallV Try.prog 96 #[p0.im.val] V1 fun v V2 => ∃ r2 : WhV, v = r2.val ∧ -- waveportref01.IntNeg
    R ((NumV.mk r1 r2 p0.under).val) V2) :
  CallV Try.prog 69 #[p0.val] V R :=
  calls_of_vc (Shp := Shp) hmixed Try.func69 (c := Try.f69.body.getD .skip) (args := [p0.val]) (by kernel_rfl)
    (.seq (.reg [⟨1, 3, false⟩, ⟨2, 3, false⟩]) (.seq (.draw [(0, ⟨3, 7, false⟩), (1, ⟨1, 4, false⟩), (3, ⟨6, 7, false⟩), (4, ⟨1, 4, false⟩), (6, ⟨9, 7, false⟩), (7, ⟨1, 4, false⟩), (2, ⟨5, 10, false⟩), (5, ⟨8, 10, false⟩), (8, ⟨11, 0, false⟩), (9, ⟨2, 6, false⟩)] [0, 1, 3, 0, 8, 31, 0, 64, 255, 511]) .leaf))
    (Eq.mpr (by kernel_rfl) h)

/-- waveport/waveportref01.Sub -/
theorem ref1_Sub_vc (p0 : NumV) (p1 : NumV) (V : View) (R : Value → View → Prop) 
  (h :
    CallV Try.prog 69 #[p1.val] V fun v V1 => ∃ r1 : NumV, v = r1.val ∧ -- waveportref01.Neg
    CallV Try.prog 80 #[p0.val, r1.val] V1 fun v V2 => ∃ r2 : NumV, v = r2.val ∧ -- waveportref01.Add
    R (r2.val) V2) :
  CallV Try.prog 70 #[p0.val, p1.val] V R :=
  calls_of_vc (Shp := Shp) hmixed Try.func70 (c := Try.f70.body.getD .skip) (args := [p0.val, p1.val]) (by kernel_rfl)
    (.seq (.reg [⟨2, 3, false⟩, ⟨3, 3, false⟩, ⟨4, 3, false⟩]) (.seq (.draw [(0, ⟨2, 4, false⟩), (1, ⟨3, 4, false⟩), (2, ⟨7, 10, false⟩), (3, ⟨8, 10, false⟩), (4, ⟨4, 6, false⟩)] [0, 0, 2, 7, 15]) .leaf))
    (Eq.mpr (by kernel_rfl) h)

/-- waveport/waveportref01.Conj -/
theorem ref1_Conj_vc (p0 : NumV) (V : View) (R : Value → View → Prop) 
  (h :
    CallV Try.prog 96 #[p0.im.val] V fun v V1 => ∃ r1 : WhV, v = r1.val ∧ -- waveportref01.IntNeg
    R ((NumV.mk p0.re r1 p0.under).val) V1) :
  CallV Try.prog 79 #[p0.val] V R :=
  calls_of_vc (Shp := Shp) hmixed Try.func79 (c := Try.f79.body.getD .skip) (args := [p0.val]) (by kernel_rfl)
    (.seq (.reg [⟨1, 3, false⟩, ⟨2, 3, false⟩]) (.seq (.draw [(0, ⟨3, 7, false⟩), (1, ⟨1, 4, false⟩), (2, ⟨5, 7, false⟩), (3, ⟨1, 4, false⟩), (5, ⟨8, 7, false⟩), (6, ⟨1, 4, false⟩), (4, ⟨7, 10, false⟩), (7, ⟨10, 0, false⟩), (8, ⟨2, 6, false⟩)] [0, 1, 0, 4, 12, 0, 32, 127, 255]) .leaf))
    (Eq.mpr (by kernel_rfl) h)

end Go.Proofs.Ytcapadojlaojkaa

set_option maxRecDepth 100000
set_option maxHeartbeats 4000000
namespace Go.Proofs.Ytcapadojlaojkaa
open Go Go.Vc Go.Proofs

structure L_ref1_NatDiv_0 where
  t13 : Int
  o57 : List Value
  o69 : List Value
structure C_ref1_NatDiv_0 where
  t8 : Int
  t9 : Sl
  t11 : Int
  t12l : Nat
  t12c : Nat
structure L_ref1_NatDiv_1 where
  t15 : Int
structure C_ref1_NatDiv_1 where
  t8 : Int
  t9 : Sl
  t11 : Int
  t12l : Nat
  t12c : Nat
  t13 : Int
  o57 : List Value
  o69 : List Value
structure L_ref1_NatDiv_2 where
  t15 : Int
  t16 : Int
structure C_ref1_NatDiv_2 where
  t8 : Int
  t9 : Sl
  t11 : Int
  t12l : Nat
  t12c : Nat
  t13 : Int
  o57 : List Value
  o69 : List Value
structure L_ref1_NatDiv_3 where
  t17 : Int
  t18 : Int
  t19 : Int
  o57 : List Value
  o69 : List Value
structure C_ref1_NatDiv_3 where
  t8 : Int
  t9 : Sl
  t11 : Int
  t12l : Nat
  t12c : Nat
  t13 : Int
  t15 : Int
structure L_ref1_NatDiv_4 where
  t18 : Int
  t23 : Int
  o57 : List Value
  o69 : List Value
structure C_ref1_NatDiv_4 where
  t8 : Int
  t9 : Sl
  t11 : Int
  t12l : Nat
  t12c : Nat
  t13 : Int
  t15 : Int
/-- waveport/waveportref01.NatDiv -/
theorem ref1_NatDiv_vc (p0 : Sl) (p1 : Sl) (V : View) (R : Value → View → Prop) (I_ref1_NatDiv_0 : C_ref1_NatDiv_0 → L_ref1_NatDiv_0 → View → Prop) (mu_ref1_NatDiv_0 : C_ref1_NatDiv_0 → L_ref1_NatDiv_0 → View → Nat) (I_ref1_NatDiv_1 : C_ref1_NatDiv_1 → L_ref1_NatDiv_1 → View → Prop) (I_ref1_NatDiv_2 : C_ref1_NatDiv_2 → L_ref1_NatDiv_2 → View → Prop) (mu_ref1_NatDiv_2 : C_ref1_NatDiv_2 → L_ref1_NatDiv_2 → View → Nat) (I_ref1_NatDiv_3 : C_ref1_NatDiv_3 → L_ref1_NatDiv_3 → View → Prop) (mu_ref1_NatDiv_3 : C_ref1_NatDiv_3 → L_ref1_NatDiv_3 → View → Nat) (I_ref1_NatDiv_4 : C_ref1_NatDiv_4 → L_ref1_NatDiv_4 → View → Prop) (mu_ref1_NatDiv_4 : C_ref1_NatDiv_4 → L_ref1_NatDiv_4 → View → Nat)
  (h :
    CallV Try.prog 140 #[p0.v, p1.v] V fun v V1 => ∃ r1 : Int, v = .int .i64 r1 ∧ -- waveportref01.NatCmp
    ((decide ((r1 : Int) < 0)) = true →
      R (.tuple #[(Sl.mk none 0 0).v, p0.v]) V1) ∧
    ((decide ((r1 : Int) < 0)) = false →
      ((((p1.len : Int) : Int) == 1) = true →
      ((0 : Int) ≤ 0 ∧ (0 : Int) < (p1.len : Nat) ∧ Option.isSome p1.a = true) ∧
      ∃ x1 : Int, View.load V1 (Option.map (fun q => Addr.add q (Int.toNat 0 * 1)) p1.a) = some (.int .u32 x1) ∧
      CallV Try.prog 163 #[p0.v, .int .u32 x1] V1 fun v V2 => ∃ (r2 : Sl) (r3 : Int), v = .tuple #[r2.v, .int .u32 r3] ∧ -- waveportref01.natDigit
      CallV Try.prog 135 #[.int .u64 (IntKind.u64.wrap r3)] V2 fun v V3 => ∃ r4 : Sl, v = r4.v ∧ -- waveportref01.NatOf
      R (.tuple #[r2.v, r4.v]) V3) ∧
    ((((p1.len : Int) : Int) == 1) = false →
      CallV Try.prog 164 #[p1.v] V1 fun v V4 => ∃ r5 : Int, v = .int .i64 r5 ∧ -- waveportref01.NatBits
    CallV Try.prog 165 #[p1.v, .int .i64 (IntKind.i64.wrap ((IntKind.i64.wrap (32 * (p1.len : Int))) - r5))] V4 fun v V5 => ∃ r6 : Sl, v = r6.v ∧ -- waveportref01.NatShl
    ((0 : Int) ≤ (IntKind.i64.wrap ((p0.len : Int) + 1)) ∧ ((IntKind.i64.wrap ((p0.len : Int) + 1)) : Int) ≤ (IntKind.i64.wrap ((p0.len : Int) + 1)) ∧ (4 : Int) * (IntKind.i64.wrap ((p0.len : Int) + 1)) ≤ 281474976710656 ∧ ((IntKind.i64.wrap ((p0.len : Int) + 1)) : Int) ≤ 9223372036854775807) ∧
    CallV Try.prog 165 #[p0.v, .int .i64 (IntKind.i64.wrap ((IntKind.i64.wrap (32 * (p1.len : Int))) - r5))] V5 fun v V6 => ∃ r7 : Sl, v = r7.v ∧ -- waveportref01.NatShl
    ∃ l1 : List Value, View.has V6 r7.a l1 ∧ List.length l1 = (min r7.len (Int.toNat (IntKind.i64.wrap ((p0.len : Int) + 1)))) * 1 ∧ (l1 = [] ∨ Option.isSome r7.a = true) ∧ (∀ v ∈ l1, Value.oneCell' v = true) ∧ 0 + List.length l1 ≤ List.length ((List.replicate (Int.toNat (IntKind.i64.wrap ((p0.len : Int) + 1))) [Value.int .u32 0]).flatten) ∧
    ((0 : Int) ≤ (IntKind.i64.wrap (((Int.toNat (IntKind.i64.wrap ((p0.len : Int) + 1)) : Nat) : Int) - (r6.len : Int))) ∧ ((IntKind.i64.wrap (((Int.toNat (IntKind.i64.wrap ((p0.len : Int) + 1)) : Nat) : Int) - (r6.len : Int))) : Int) ≤ (IntKind.i64.wrap (((Int.toNat (IntKind.i64.wrap ((p0.len : Int) + 1)) : Nat) : Int) - (r6.len : Int))) ∧ (4 : Int) * (IntKind.i64.wrap (((Int.toNat (IntKind.i64.wrap ((p0.len : Int) + 1)) : Nat) : Int) - (r6.len : Int))) ≤ 281474976710656 ∧ ((IntKind.i64.wrap (((Int.toNat (IntKind.i64.wrap ((p0.len : Int) + 1)) : Nat) : Int) - (r6.len : Int))) : Int) ≤ 9223372036854775807) ∧
    I_ref1_NatDiv_0 (C_ref1_NatDiv_0.mk (IntKind.i64.wrap ((IntKind.i64.wrap (32 * (p1.len : Int))) - r5)) r6 (r6.len : Int) (Int.toNat (IntKind.i64.wrap (((Int.toNat (IntKind.i64.wrap ((p0.len : Int) + 1)) : Nat) : Int) - (r6.len : Int)))) (Int.toNat (IntKind.i64.wrap (((Int.toNat (IntKind.i64.wrap ((p0.len : Int) + 1)) : Nat) : Int) - (r6.len : Int))))) (L_ref1_NatDiv_0.mk (IntKind.i64.wrap (((Int.toNat (IntKind.i64.wrap (((Int.toNat (IntKind.i64.wrap ((p0.len : Int) + 1)) : Nat) : Int) - (r6.len : Int))) : Nat) : Int) - 1)) (setL ((List.replicate (Int.toNat (IntKind.i64.wrap ((p0.len : Int) + 1))) [Value.int .u32 0]).flatten) 0 l1) ((List.replicate (Int.toNat (IntKind.i64.wrap (((Int.toNat (IntKind.i64.wrap ((p0.len : Int) + 1)) : Nat) : Int) - (r6.len : Int)))) [Value.int .u32 0]).flatten)) V6 ∧
    (∀ (x3 : L_ref1_NatDiv_0) (V7 : View), View.le V6 V7 → I_ref1_NatDiv_0 (C_ref1_NatDiv_0.mk (IntKind.i64.wrap ((IntKind.i64.wrap (32 * (p1.len : Int))) - r5)) r6 (r6.len : Int) (Int.toNat (IntKind.i64.wrap (((Int.toNat (IntKind.i64.wrap ((p0.len : Int) + 1)) : Nat) : Int) - (r6.len : Int)))) (Int.toNat (IntKind.i64.wrap (((Int.toNat (IntKind.i64.wrap ((p0.len : Int) + 1)) : Nat) : Int) - (r6.len : Int))))) x3 V7 →
      ((decide ((x3.t13 : Int) ≥ 0)) = true →
        ((0 : Int) ≤ (IntKind.i64.wrap (x3.t13 + (r6.len : Int))) ∧ ((IntKind.i64.wrap (x3.t13 + (r6.len : Int))) : Int) < (Int.toNat (IntKind.i64.wrap ((p0.len : Int) + 1)) : Nat)) ∧
      ∃ x4 : Int, x3.o57[0 + Int.toNat (IntKind.i64.wrap (x3.t13 + (r6.len : Int))) * 1]? = some (.int .u32 x4) ∧
      ((0 : Int) ≤ (IntKind.i64.wrap ((IntKind.i64.wrap (x3.t13 + (r6.len : Int))) - 1)) ∧ ((IntKind.i64.wrap ((IntKind.i64.wrap (x3.t13 + (r6.len : Int))) - 1)) : Int) < (Int.toNat (IntKind.i64.wrap ((p0.len : Int) + 1)) : Nat)) ∧
      ∃ x5 : Int, x3.o57[0 + Int.toNat (IntKind.i64.wrap ((IntKind.i64.wrap (x3.t13 + (r6.len : Int))) - 1)) * 1]? = some (.int .u32 x5) ∧
      ((0 : Int) ≤ (IntKind.i64.wrap ((r6.len : Int) - 1)) ∧ ((IntKind.i64.wrap ((r6.len : Int) - 1)) : Int) < (r6.len : Nat) ∧ Option.isSome r6.a = true) ∧
      ∃ x6 : Int, View.load V7 (Option.map (fun q => Addr.add q (Int.toNat (IntKind.i64.wrap ((r6.len : Int) - 1)) * 1)) r6.a) = some (.int .u32 x6) ∧
      ((IntKind.u64.wrap x6) : Int) ≠ 0 ∧
      ((0 : Int) ≤ (IntKind.i64.wrap ((r6.len : Int) - 1)) ∧ ((IntKind.i64.wrap ((r6.len : Int) - 1)) : Int) < (r6.len : Nat) ∧ Option.isSome r6.a = true) ∧
      ∃ x7 : Int, View.load V7 (Option.map (fun q => Addr.add q (Int.toNat (IntKind.i64.wrap ((r6.len : Int) - 1)) * 1)) r6.a) = some (.int .u32 x7) ∧
      ((IntKind.u64.wrap x7) : Int) ≠ 0 ∧
      (I_ref1_NatDiv_2 (C_ref1_NatDiv_2.mk (IntKind.i64.wrap ((IntKind.i64.wrap (32 * (p1.len : Int))) - r5)) r6 (r6.len : Int) (Int.toNat (IntKind.i64.wrap (((Int.toNat (IntKind.i64.wrap ((p0.len : Int) + 1)) : Nat) : Int) - (r6.len : Int)))) (Int.toNat (IntKind.i64.wrap (((Int.toNat (IntKind.i64.wrap ((p0.len : Int) + 1)) : Nat) : Int) - (r6.len : Int)))) x3.t13 x3.o57 x3.o69) (L_ref1_NatDiv_2.mk (IntKind.u64.wrap (Int.tdiv (IntKind.u64.wrap (BitVec.toNat ((BitVec.ofInt IntKind.u64.bits (IntKind.u64.wrap ((IntKind.u64.wrap x4) * 2 ^ (min (Int.toNat 32) (IntKind.u64.bits))))) ||| (BitVec.ofInt IntKind.u64.bits (IntKind.u64.wrap x5))))) (IntKind.u64.wrap x6))) (Int.tmod (IntKind.u64.wrap (BitVec.toNat ((BitVec.ofInt IntKind.u64.bits (IntKind.u64.wrap ((IntKind.u64.wrap x4) * 2 ^ (min (Int.toNat 32) (IntKind.u64.bits))))) ||| (BitVec.ofInt IntKind.u64.bits (IntKind.u64.wrap x5))))) (IntKind.u64.wrap x7))) V7 ∧
        (∀ (x10 : L_ref1_NatDiv_2) (V9 : View), View.le V7 V9 → I_ref1_NatDiv_2 (C_ref1_NatDiv_2.mk (IntKind.i64.wrap ((IntKind.i64.wrap (32 * (p1.len : Int))) - r5)) r6 (r6.len : Int) (Int.toNat (IntKind.i64.wrap (((Int.toNat (IntKind.i64.wrap ((p0.len : Int) + 1)) : Nat) : Int) - (r6.len : Int)))) (Int.toNat (IntKind.i64.wrap (((Int.toNat (IntKind.i64.wrap ((p0.len : Int) + 1)) : Nat) : Int) - (r6.len : Int)))) x3.t13 x3.o57 x3.o69) x10 V9 →
          ((decide ((x10.t15 : Int) ≥ 4294967296)) = true →
          (true = true →
            ((0 : Int) ≤ (IntKind.i64.wrap ((r6.len : Int) - 1)) ∧ ((IntKind.i64.wrap ((r6.len : Int) - 1)) : Int) < (r6.len : Nat) ∧ Option.isSome r6.a = true) ∧
          ∃ x11 : Int, View.load V9 (Option.map (fun q => Addr.add q (Int.toNat (IntKind.i64.wrap ((r6.len : Int) - 1)) * 1)) r6.a) = some (.int .u32 x11) ∧
          ((decide (((IntKind.u64.wrap (x10.t16 + (IntKind.u64.wrap x11))) : Int) ≥ 4294967296)) = true →
            I_ref1_NatDiv_1 (C_ref1_NatDiv_1.mk (IntKind.i64.wrap ((IntKind.i64.wrap (32 * (p1.len : Int))) - r5)) r6 (r6.len : Int) (Int.toNat (IntKind.i64.wrap (((Int.toNat (IntKind.i64.wrap ((p0.len : Int) + 1)) : Nat) : Int) - (r6.len : Int)))) (Int.toNat (IntKind.i64.wrap (((Int.toNat (IntKind.i64.wrap ((p0.len : Int) + 1)) : Nat) : Int) - (r6.len : Int)))) x3.t13 x3.o57 x3.o69) (L_ref1_NatDiv_1.mk (IntKind.u64.wrap (x10.t15 - 1))) V9) ∧
          ((decide (((IntKind.u64.wrap (x10.t16 + (IntKind.u64.wrap x11))) : Int) ≥ 4294967296)) = false →
            I_ref1_NatDiv_2 (C_ref1_NatDiv_2.mk (IntKind.i64.wrap ((IntKind.i64.wrap (32 * (p1.len : Int))) - r5)) r6 (r6.len : Int) (Int.toNat (IntKind.i64.wrap (((Int.toNat (IntKind.i64.wrap ((p0.len : Int) + 1)) : Nat) : Int) - (r6.len : Int)))) (Int.toNat (IntKind.i64.wrap (((Int.toNat (IntKind.i64.wrap ((p0.len : Int) + 1)) : Nat) : Int) - (r6.len : Int)))) x3.t13 x3.o57 x3.o69) (L_ref1_NatDiv_2.mk (IntKind.u64.wrap (x10.t15 - 1)) (IntKind.u64.wrap (x10.t16 + (IntKind.u64.wrap x11)))) V9 ∧ mu_ref1_NatDiv_2 (C_ref1_NatDiv_2.mk (IntKind.i64.wrap ((IntKind.i64.wrap (32 * (p1.len : Int))) - r5)) r6 (r6.len : Int) (Int.toNat (IntKind.i64.wrap (((Int.toNat (IntKind.i64.wrap ((p0.len : Int) + 1)) : Nat) : Int) - (r6.len : Int)))) (Int.toNat (IntKind.i64.wrap (((Int.toNat (IntKind.i64.wrap ((p0.len : Int) + 1)) : Nat) : Int) - (r6.len : Int)))) x3.t13 x3.o57 x3.o69) (L_ref1_NatDiv_2.mk (IntKind.u64.wrap (x10.t15 - 1)) (IntKind.u64.wrap (x10.t16 + (IntKind.u64.wrap x11)))) V9 < mu_ref1_NatDiv_2 (C_ref1_NatDiv_2.mk (IntKind.i64.wrap ((IntKind.i64.wrap (32 * (p1.len : Int))) - r5)) r6 (r6.len : Int) (Int.toNat (IntKind.i64.wrap (((Int.toNat (IntKind.i64.wrap ((p0.len : Int) + 1)) : Nat) : Int) - (r6.len : Int)))) (Int.toNat (IntKind.i64.wrap (((Int.toNat (IntKind.i64.wrap ((p0.len : Int) + 1)) : Nat) : Int) - (r6.len : Int)))) x3.t13 x3.o57 x3.o69) x10 V9)) ∧
          (true = false →
            I_ref1_NatDiv_1 (C_ref1_NatDiv_1.mk (IntKind.i64.wrap ((IntKind.i64.wrap (32 * (p1.len : Int))) - r5)) r6 (r6.len : Int) (Int.toNat (IntKind.i64.wrap (((Int.toNat (IntKind.i64.wrap ((p0.len : Int) + 1)) : Nat) : Int) - (r6.len : Int)))) (Int.toNat (IntKind.i64.wrap (((Int.toNat (IntKind.i64.wrap ((p0.len : Int) + 1)) : Nat) : Int) - (r6.len : Int)))) x3.t13 x3.o57 x3.o69) (L_ref1_NatDiv_1.mk x10.t15) V9)) ∧
          ((decide ((x10.t15 : Int) ≥ 4294967296)) = false →
          ((0 : Int) ≤ (IntKind.i64.wrap ((r6.len : Int) - 2)) ∧ ((IntKind.i64.wrap ((r6.len : Int) - 2)) : Int) < (r6.len : Nat) ∧ Option.isSome r6.a = true) ∧
          ∃ x15 : Int, View.load V9 (Option.map (fun q => Addr.add q (Int.toNat (IntKind.i64.wrap ((r6.len : Int) - 2)) * 1)) r6.a) = some (.int .u32 x15) ∧
          ((0 : Int) ≤ (IntKind.i64.wrap ((IntKind.i64.wrap (x3.t13 + (r6.len : Int))) - 2)) ∧ ((IntKind.i64.wrap ((IntKind.i64.wrap (x3.t13 + (r6.len : Int))) - 2)) : Int) < (Int.toNat (IntKind.i64.wrap ((p0.len : Int) + 1)) : Nat)) ∧
          ∃ x16 : Int, x3.o57[0 + Int.toNat (IntKind.i64.wrap ((IntKind.i64.wrap (x3.t13 + (r6.len : Int))) - 2)) * 1]? = some (.int .u32 x16) ∧
          ((decide (((IntKind.u64.wrap (x10.t15 * (IntKind.u64.wrap x15))) : Int) > (IntKind.u64.wrap (BitVec.toNat ((BitVec.ofInt IntKind.u64.bits (IntKind.u64.wrap (x10.t16 * 2 ^ (min (Int.toNat 32) (IntKind.u64.bits))))) ||| (BitVec.ofInt IntKind.u64.bits (IntKind.u64.wrap x16))))))) = true →
            ((0 : Int) ≤ (IntKind.i64.wrap ((r6.len : Int) - 1)) ∧ ((IntKind.i64.wrap ((r6.len : Int) - 1)) : Int) < (r6.len : Nat) ∧ Option.isSome r6.a = true) ∧
          ∃ x17 : Int, View.load V9 (Option.map (fun q => Addr.add q (Int.toNat (IntKind.i64.wrap ((r6.len : Int) - 1)) * 1)) r6.a) = some (.int .u32 x17) ∧
          ((decide (((IntKind.u64.wrap (x10.t16 + (IntKind.u64.wrap x17))) : Int) ≥ 4294967296)) = true →
            I_ref1_NatDiv_1 (C_ref1_NatDiv_1.mk (IntKind.i64.wrap ((IntKind.i64.wrap (32 * (p1.len : Int))) - r5)) r6 (r6.len : Int) (Int.toNat (IntKind.i64.wrap (((Int.toNat (IntKind.i64.wrap ((p0.len : Int) + 1)) : Nat) : Int) - (r6.len : Int)))) (Int.toNat (IntKind.i64.wrap (((Int.toNat (IntKind.i64.wrap ((p0.len : Int) + 1)) : Nat) : Int) - (r6.len : Int)))) x3.t13 x3.o57 x3.o69) (L_ref1_NatDiv_1.mk (IntKind.u64.wrap (x10.t15 - 1))) V9) ∧
          ((decide (((IntKind.u64.wrap (x10.t16 + (IntKind.u64.wrap x17))) : Int) ≥ 4294967296)) = false →
            I_ref1_NatDiv_2 (C_ref1_NatDiv_2.mk (IntKind.i64.wrap ((IntKind.i64.wrap (32 * (p1.len : Int))) - r5)) r6 (r6.len : Int) (Int.toNat (IntKind.i64.wrap (((Int.toNat (IntKind.i64.wrap ((p0.len : Int) + 1)) : Nat) : Int) - (r6.len : Int)))) (Int.toNat (IntKind.i64.wrap (((Int.toNat (IntKind.i64.wrap ((p0.len : Int) + 1)) : Nat) : Int) - (r6.len : Int)))) x3.t13 x3.o57 x3.o69) (L_ref1_NatDiv_2.mk (IntKind.u64.wrap (x10.t15 - 1)) (IntKind.u64.wrap (x10.t16 + (IntKind.u64.wrap x17)))) V9 ∧ mu_ref1_NatDiv_2 (C_ref1_NatDiv_2.mk (IntKind.i64.wrap ((IntKind.i64.wrap (32 * (p1.len : Int))) - r5)) r6 (r6.len : Int) (Int.toNat (IntKind.i64.wrap (((Int.toNat (IntKind.i64.wrap ((p0.len : Int) + 1)) : Nat) : Int) - (r6.len : Int)))) (Int.toNat (IntKind.i64.wrap (((Int.toNat (IntKind.i64.wrap ((p0.len : Int) + 1)) : Nat) : Int) - (r6.len : Int)))) x3.t13 x3.o57 x3.o69) (L_ref1_NatDiv_2.mk (IntKind.u64.wrap (x10.t15 - 1)) (IntKind.u64.wrap (x10.t16 + (IntKind.u64.wrap x17)))) V9 < mu_ref1_NatDiv_2 (C_ref1_NatDiv_2.mk (IntKind.i64.wrap ((IntKind.i64.wrap (32 * (p1.len : Int))) - r5)) r6 (r6.len : Int) (Int.toNat (IntKind.i64.wrap (((Int.toNat (IntKind.i64.wrap ((p0.len : Int) + 1)) : Nat) : Int) - (r6.len : Int)))) (Int.toNat (IntKind.i64.wrap (((Int.toNat (IntKind.i64.wrap ((p0.len : Int) + 1)) : Nat) : Int) - (r6.len : Int)))) x3.t13 x3.o57 x3.o69) x10 V9)) ∧
          ((decide (((IntKind.u64.wrap (x10.t15 * (IntKind.u64.wrap x15))) : Int) > (IntKind.u64.wrap (BitVec.toNat ((BitVec.ofInt IntKind.u64.bits (IntKind.u64.wrap (x10.t16 * 2 ^ (min (Int.toNat 32) (IntKind.u64.bits))))) ||| (BitVec.ofInt IntKind.u64.bits (IntKind.u64.wrap x16))))))) = false →
            I_ref1_NatDiv_1 (C_ref1_NatDiv_1.mk (IntKind.i64.wrap ((IntKind.i64.wrap (32 * (p1.len : Int))) - r5)) r6 (r6.len : Int) (Int.toNat (IntKind.i64.wrap (((Int.toNat (IntKind.i64.wrap ((p0.len : Int) + 1)) : Nat) : Int) - (r6.len : Int)))) (Int.toNat (IntKind.i64.wrap (((Int.toNat (IntKind.i64.wrap ((p0.len : Int) + 1)) : Nat) : Int) - (r6.len : Int)))) x3.t13 x3.o57 x3.o69) (L_ref1_NatDiv_1.mk x10.t15) V9)))) ∧
      (∀ (x8 : L_ref1_NatDiv_1) (V8 : View), View.le V7 V8 → I_ref1_NatDiv_1 (C_ref1_NatDiv_1.mk (IntKind.i64.wrap ((IntKind.i64.wrap (32 * (p1.len : Int))) - r5)) r6 (r6.len : Int) (Int.toNat (IntKind.i64.wrap (((Int.toNat (IntKind.i64.wrap ((p0.len : Int) + 1)) : Nat) : Int) - (r6.len : Int)))) (Int.toNat (IntKind.i64.wrap (((Int.toNat (IntKind.i64.wrap ((p0.len : Int) + 1)) : Nat) : Int) - (r6.len : Int)))) x3.t13 x3.o57 x3.o69) x8 V8 →
        I_ref1_NatDiv_3 (C_ref1_NatDiv_3.mk (IntKind.i64.wrap ((IntKind.i64.wrap (32 * (p1.len : Int))) - r5)) r6 (r6.len : Int) (Int.toNat (IntKind.i64.wrap (((Int.toNat (IntKind.i64.wrap ((p0.len : Int) + 1)) : Nat) : Int) - (r6.len : Int)))) (Int.toNat (IntKind.i64.wrap (((Int.toNat (IntKind.i64.wrap ((p0.len : Int) + 1)) : Nat) : Int) - (r6.len : Int)))) x3.t13 x8.t15) (L_ref1_NatDiv_3.mk 0 0 0 x3.o57 x3.o69) V8 ∧
        (∀ (x22 : L_ref1_NatDiv_3) (V10 : View), View.le V8 V10 → I_ref1_NatDiv_3 (C_ref1_NatDiv_3.mk (IntKind.i64.wrap ((IntKind.i64.wrap (32 * (p1.len : Int))) - r5)) r6 (r6.len : Int) (Int.toNat (IntKind.i64.wrap (((Int.toNat (IntKind.i64.wrap ((p0.len : Int) + 1)) : Nat) : Int) - (r6.len : Int)))) (Int.toNat (IntKind.i64.wrap (((Int.toNat (IntKind.i64.wrap ((p0.len : Int) + 1)) : Nat) : Int) - (r6.len : Int)))) x3.t13 x8.t15) x22 V10 →
          ((decide ((x22.t19 : Int) < (r6.len : Int))) = true →
            ((0 : Int) ≤ x22.t19 ∧ (x22.t19 : Int) < (r6.len : Nat) ∧ Option.isSome r6.a = true) ∧
          ∃ x23 : Int, View.load V10 (Option.map (fun q => Addr.add q (Int.toNat x22.t19 * 1)) r6.a) = some (.int .u32 x23) ∧
          ((0 : Int) ≤ (IntKind.i64.wrap (x22.t19 + x3.t13)) ∧ ((IntKind.i64.wrap (x22.t19 + x3.t13)) : Int) < (Int.toNat (IntKind.i64.wrap ((p0.len : Int) + 1)) : Nat)) ∧
          ∃ x24 : Int, x22.o57[0 + Int.toNat (IntKind.i64.wrap (x22.t19 + x3.t13)) * 1]? = some (.int .u32 x24) ∧
          ((0 : Int) ≤ (IntKind.i64.wrap (x22.t19 + x3.t13)) ∧ ((IntKind.i64.wrap (x22.t19 + x3.t13)) : Int) < (Int.toNat (IntKind.i64.wrap ((p0.len : Int) + 1)) : Nat)) ∧
          0 + Int.toNat (IntKind.i64.wrap (x22.t19 + x3.t13)) * 1 + 1 ≤ List.length x22.o57 ∧
          I_ref1_NatDiv_3 (C_ref1_NatDiv_3.mk (IntKind.i64.wrap ((IntKind.i64.wrap (32 * (p1.len : Int))) - r5)) r6 (r6.len : Int) (Int.toNat (IntKind.i64.wrap (((Int.toNat (IntKind.i64.wrap ((p0.len : Int) + 1)) : Nat) : Int) - (r6.len : Int)))) (Int.toNat (IntKind.i64.wrap (((Int.toNat (IntKind.i64.wrap ((p0.len : Int) + 1)) : Nat) : Int) - (r6.len : Int)))) x3.t13 x8.t15) (L_ref1_NatDiv_3.mk (Int.fdiv (IntKind.u64.wrap ((IntKind.u64.wrap ((IntKind.u64.wrap x24) - (IntKind.u64.wrap (BitVec.toNat ((BitVec.ofInt IntKind.u64.bits (IntKind.u64.wrap ((IntKind.u64.wrap (x8.t15 * (IntKind.u64.wrap x23))) + x22.t18))) &&& (BitVec.ofInt IntKind.u64.bits 4294967295)))))) - x22.t17)) (2 ^ (min (Int.toNat 63) (IntKind.u64.bits)))) (Int.fdiv (IntKind.u64.wrap ((IntKind.u64.wrap (x8.t15 * (IntKind.u64.wrap x23))) + x22.t18)) (2 ^ (min (Int.toNat 32) (IntKind.u64.bits)))) (IntKind.i64.wrap (x22.t19 + 1)) (List.set x22.o57 (0 + Int.toNat (IntKind.i64.wrap (x22.t19 + x3.t13)) * 1) (.int .u32 (IntKind.u32.wrap (IntKind.u64.wrap ((IntKind.u64.wrap ((IntKind.u64.wrap x24) - (IntKind.u64.wrap (BitVec.toNat ((BitVec.ofInt IntKind.u64.bits (IntKind.u64.wrap ((IntKind.u64.wrap (x8.t15 * (IntKind.u64.wrap x23))) + x22.t18))) &&& (BitVec.ofInt IntKind.u64.bits 4294967295)))))) - x22.t17))))) x22.o69) V10 ∧ mu_ref1_NatDiv_3 (C_ref1_NatDiv_3.mk (IntKind.i64.wrap ((IntKind.i64.wrap (32 * (p1.len : Int))) - r5)) r6 (r6.len : Int) (Int.toNat (IntKind.i64.wrap (((Int.toNat (IntKind.i64.wrap ((p0.len : Int) + 1)) : Nat) : Int) - (r6.len : Int)))) (Int.toNat (IntKind.i64.wrap (((Int.toNat (IntKind.i64.wrap ((p0.len : Int) + 1)) : Nat) : Int) - (r6.len : Int)))) x3.t13 x8.t15) (L_ref1_NatDiv_3.mk (Int.fdiv (IntKind.u64.wrap ((IntKind.u64.wrap ((IntKind.u64.wrap x24) - (IntKind.u64.wrap (BitVec.toNat ((BitVec.ofInt IntKind.u64.bits (IntKind.u64.wrap ((IntKind.u64.wrap (x8.t15 * (IntKind.u64.wrap x23))) + x22.t18))) &&& (BitVec.ofInt IntKind.u64.bits 4294967295)))))) - x22.t17)) (2 ^ (min (Int.toNat 63) (IntKind.u64.bits)))) (Int.fdiv (IntKind.u64.wrap ((IntKind.u64.wrap (x8.t15 * (IntKind.u64.wrap x23))) + x22.t18)) (2 ^ (min (Int.toNat 32) (IntKind.u64.bits)))) (IntKind.i64.wrap (x22.t19 + 1)) (List.set x22.o57 (0 + Int.toNat (IntKind.i64.wrap (x22.t19 + x3.t13)) * 1) (.int .u32 (IntKind.u32.wrap (IntKind.u64.wrap ((IntKind.u64.wrap ((IntKind.u64.wrap x24) - (IntKind.u64.wrap (BitVec.toNat ((BitVec.ofInt IntKind.u64.bits (IntKind.u64.wrap ((IntKind.u64.wrap (x8.t15 * (IntKind.u64.wrap x23))) + x22.t18))) &&& (BitVec.ofInt IntKind.u64.bits 4294967295)))))) - x22.t17))))) x22.o69) V10 < mu_ref1_NatDiv_3 (C_ref1_NatDiv_3.mk (IntKind.i64.wrap ((IntKind.i64.wrap (32 * (p1.len : Int))) - r5)) r6 (r6.len : Int) (Int.toNat (IntKind.i64.wrap (((Int.toNat (IntKind.i64.wrap ((p0.len : Int) + 1)) : Nat) : Int) - (r6.len : Int)))) (Int.toNat (IntKind.i64.wrap (((Int.toNat (IntKind.i64.wrap ((p0.len : Int) + 1)) : Nat) : Int) - (r6.len : Int)))) x3.t13 x8.t15) x22 V10) ∧
          ((decide ((x22.t19 : Int) < (r6.len : Int))) = false →
            ((0 : Int) ≤ (IntKind.i64.wrap (x3.t13 + (r6.len : Int))) ∧ ((IntKind.i64.wrap (x3.t13 + (r6.len : Int))) : Int) < (Int.toNat (IntKind.i64.wrap ((p0.len : Int) + 1)) : Nat)) ∧
        ∃ x26 : Int, x22.o57[0 + Int.toNat (IntKind.i64.wrap (x3.t13 + (r6.len : Int))) * 1]? = some (.int .u32 x26) ∧
        ((0 : Int) ≤ (IntKind.i64.wrap (x3.t13 + (r6.len : Int))) ∧ ((IntKind.i64.wrap (x3.t13 + (r6.len : Int))) : Int) < (Int.toNat (IntKind.i64.wrap ((p0.len : Int) + 1)) : Nat)) ∧
        0 + Int.toNat (IntKind.i64.wrap (x3.t13 + (r6.len : Int))) * 1 + 1 ≤ List.length x22.o57 ∧
        ((((Int.fdiv (IntKind.u64.wrap ((IntKind.u64.wrap ((IntKind.u64.wrap x26) - x22.t18)) - x22.t17)) (2 ^ (min (Int.toNat 63) (IntKind.u64.bits)))) : Int) == 1) = true →
          I_ref1_NatDiv_4 (C_ref1_NatDiv_4.mk (IntKind.i64.wrap ((IntKind.i64.wrap (32 * (p1.len : Int))) - r5)) r6 (r6.len : Int) (Int.toNat (IntKind.i64.wrap (((Int.toNat (IntKind.i64.wrap ((p0.len : Int) + 1)) : Nat) : Int) - (r6.len : Int)))) (Int.toNat (IntKind.i64.wrap (((Int.toNat (IntKind.i64.wrap ((p0.len : Int) + 1)) : Nat) : Int) - (r6.len : Int)))) x3.t13 (IntKind.u64.wrap (x8.t15 - 1))) (L_ref1_NatDiv_4.mk 0 0 (List.set x22.o57 (0 + Int.toNat (IntKind.i64.wrap (x3.t13 + (r6.len : Int))) * 1) (.int .u32 (IntKind.u32.wrap (IntKind.u64.wrap ((IntKind.u64.wrap ((IntKind.u64.wrap x26) - x22.t18)) - x22.t17))))) x22.o69) V10 ∧
          (∀ (x28 : L_ref1_NatDiv_4) (V11 : View), View.le V10 V11 → I_ref1_NatDiv_4 (C_ref1_NatDiv_4.mk (IntKind.i64.wrap ((IntKind.i64.wrap (32 * (p1.len : Int))) - r5)) r6 (r6.len : Int) (Int.toNat (IntKind.i64.wrap (((Int.toNat (IntKind.i64.wrap ((p0.len : Int) + 1)) : Nat) : Int) - (r6.len : Int)))) (Int.toNat (IntKind.i64.wrap (((Int.toNat (IntKind.i64.wrap ((p0.len : Int) + 1)) : Nat) : Int) - (r6.len : Int)))) x3.t13 (IntKind.u64.wrap (x8.t15 - 1))) x28 V11 →
            ((decide ((x28.t23 : Int) < (r6.len : Int))) = true →
              ((0 : Int) ≤ (IntKind.i64.wrap (x28.t23 + x3.t13)) ∧ ((IntKind.i64.wrap (x28.t23 + x3.t13)) : Int) < (Int.toNat (IntKind.i64.wrap ((p0.len : Int) + 1)) : Nat)) ∧
            ∃ x29 : Int, x28.o57[0 + Int.toNat (IntKind.i64.wrap (x28.t23 + x3.t13)) * 1]? = some (.int .u32 x29) ∧
            ((0 : Int) ≤ x28.t23 ∧ (x28.t23 : Int) < (r6.len : Nat) ∧ Option.isSome r6.a = true) ∧
            ∃ x30 : Int, View.load V11 (Option.map (fun q => Addr.add q (Int.toNat x28.t23 * 1)) r6.a) = some (.int .u32 x30) ∧
            ((0 : Int) ≤ (IntKind.i64.wrap (x28.t23 + x3.t13)) ∧ ((IntKind.i64.wrap (x28.t23 + x3.t13)) : Int) < (Int.toNat (IntKind.i64.wrap ((p0.len : Int) + 1)) : Nat)) ∧
            0 + Int.toNat (IntKind.i64.wrap (x28.t23 + x3.t13)) * 1 + 1 ≤ List.length x28.o57 ∧
            I_ref1_NatDiv_4 (C_ref1_NatDiv_4.mk (IntKind.i64.wrap ((IntKind.i64.wrap (32 * (p1.len : Int))) - r5)) r6 (r6.len : Int) (Int.toNat (IntKind.i64.wrap (((Int.toNat (IntKind.i64.wrap ((p0.len : Int) + 1)) : Nat) : Int) - (r6.len : Int)))) (Int.toNat (IntKind.i64.wrap (((Int.toNat (IntKind.i64.wrap ((p0.len : Int) + 1)) : Nat) : Int) - (r6.len : Int)))) x3.t13 (IntKind.u64.wrap (x8.t15 - 1))) (L_ref1_NatDiv_4.mk (Int.fdiv (IntKind.u64.wrap ((IntKind.u64.wrap ((IntKind.u64.wrap x29) + (IntKind.u64.wrap x30))) + x28.t18)) (2 ^ (min (Int.toNat 32) (IntKind.u64.bits)))) (IntKind.i64.wrap (x28.t23 + 1)) (List.set x28.o57 (0 + Int.toNat (IntKind.i64.wrap (x28.t23 + x3.t13)) * 1) (.int .u32 (IntKind.u32.wrap (IntKind.u64.wrap ((IntKind.u64.wrap ((IntKind.u64.wrap x29) + (IntKind.u64.wrap x30))) + x28.t18))))) x28.o69) V11 ∧ mu_ref1_NatDiv_4 (C_ref1_NatDiv_4.mk (IntKind.i64.wrap ((IntKind.i64.wrap (32 * (p1.len : Int))) - r5)) r6 (r6.len : Int) (Int.toNat (IntKind.i64.wrap (((Int.toNat (IntKind.i64.wrap ((p0.len : Int) + 1)) : Nat) : Int) - (r6.len : Int)))) (Int.toNat (IntKind.i64.wrap (((Int.toNat (IntKind.i64.wrap ((p0.len : Int) + 1)) : Nat) : Int) - (r6.len : Int)))) x3.t13 (IntKind.u64.wrap (x8.t15 - 1))) (L_ref1_NatDiv_4.mk (Int.fdiv (IntKind.u64.wrap ((IntKind.u64.wrap ((IntKind.u64.wrap x29) + (IntKind.u64.wrap x30))) + x28.t18)) (2 ^ (min (Int.toNat 32) (IntKind.u64.bits)))) (IntKind.i64.wrap (x28.t23 + 1)) (List.set x28.o57 (0 + Int.toNat (IntKind.i64.wrap (x28.t23 + x3.t13)) * 1) (.int .u32 (IntKind.u32.wrap (IntKind.u64.wrap ((IntKind.u64.wrap ((IntKind.u64.wrap x29) + (IntKind.u64.wrap x30))) + x28.t18))))) x28.o69) V11 < mu_ref1_NatDiv_4 (C_ref1_NatDiv_4.mk (IntKind.i64.wrap ((IntKind.i64.wrap (32 * (p1.len : Int))) - r5)) r6 (r6.len : Int) (Int.toNat (IntKind.i64.wrap (((Int.toNat (IntKind.i64.wrap ((p0.len : Int) + 1)) : Nat) : Int) - (r6.len : Int)))) (Int.toNat (IntKind.i64.wrap (((Int.toNat (IntKind.i64.wrap ((p0.len : Int) + 1)) : Nat) : Int) - (r6.len : Int)))) x3.t13 (IntKind.u64.wrap (x8.t15 - 1))) x28 V11) ∧
            ((decide ((x28.t23 : Int) < (r6.len : Int))) = false →
              ((0 : Int) ≤ (IntKind.i64.wrap (x3.t13 + (r6.len : Int))) ∧ ((IntKind.i64.wrap (x3.t13 + (r6.len : Int))) : Int) < (Int.toNat (IntKind.i64.wrap ((p0.len : Int) + 1)) : Nat)) ∧
          ∃ x32 : Int, x28.o57[0 + Int.toNat (IntKind.i64.wrap (x3.t13 + (r6.len : Int))) * 1]? = some (.int .u32 x32) ∧
          ((0 : Int) ≤ (IntKind.i64.wrap (x3.t13 + (r6.len : Int))) ∧ ((IntKind.i64.wrap (x3.t13 + (r6.len : Int))) : Int) < (Int.toNat (IntKind.i64.wrap ((p0.len : Int) + 1)) : Nat)) ∧
          0 + Int.toNat (IntKind.i64.wrap (x3.t13 + (r6.len : Int))) * 1 + 1 ≤ List.length x28.o57 ∧
          ((0 : Int) ≤ x3.t13 ∧ (x3.t13 : Int) < (Int.toNat (IntKind.i64.wrap (((Int.toNat (IntKind.i64.wrap ((p0.len : Int) + 1)) : Nat) : Int) - (r6.len : Int))) : Nat)) ∧
        0 + Int.toNat x3.t13 * 1 + 1 ≤ List.length x28.o69 ∧
        I_ref1_NatDiv_0 (C_ref1_NatDiv_0.mk (IntKind.i64.wrap ((IntKind.i64.wrap (32 * (p1.len : Int))) - r5)) r6 (r6.len : Int) (Int.toNat (IntKind.i64.wrap (((Int.toNat (IntKind.i64.wrap ((p0.len : Int) + 1)) : Nat) : Int) - (r6.len : Int)))) (Int.toNat (IntKind.i64.wrap (((Int.toNat (IntKind.i64.wrap ((p0.len : Int) + 1)) : Nat) : Int) - (r6.len : Int))))) (L_ref1_NatDiv_0.mk (IntKind.i64.wrap (x3.t13 - 1)) (List.set x28.o57 (0 + Int.toNat (IntKind.i64.wrap (x3.t13 + (r6.len : Int))) * 1) (.int .u32 (IntKind.u32.wrap (x32 + (IntKind.u32.wrap x28.t18))))) (List.set x28.o69 (0 + Int.toNat x3.t13 * 1) (.int .u32 (IntKind.u32.wrap (IntKind.u64.wrap (x8.t15 - 1)))))) V11 ∧ mu_ref1_NatDiv_0 (C_ref1_NatDiv_0.mk (IntKind.i64.wrap ((IntKind.i64.wrap (32 * (p1.len : Int))) - r5)) r6 (r6.len : Int) (Int.toNat (IntKind.i64.wrap (((Int.toNat (IntKind.i64.wrap ((p0.len : Int) + 1)) : Nat) : Int) - (r6.len : Int)))) (Int.toNat (IntKind.i64.wrap (((Int.toNat (IntKind.i64.wrap ((p0.len : Int) + 1)) : Nat) : Int) - (r6.len : Int))))) (L_ref1_NatDiv_0.mk (IntKind.i64.wrap (x3.t13 - 1)) (List.set x28.o57 (0 + Int.toNat (IntKind.i64.wrap (x3.t13 + (r6.len : Int))) * 1) (.int .u32 (IntKind.u32.wrap (x32 + (IntKind.u32.wrap x28.t18))))) (List.set x28.o69 (0 + Int.toNat x3.t13 * 1) (.int .u32 (IntKind.u32.wrap (IntKind.u64.wrap (x8.t15 - 1)))))) V11 < mu_ref1_NatDiv_0 (C_ref1_NatDiv_0.mk (IntKind.i64.wrap ((IntKind.i64.wrap (32 * (p1.len : Int))) - r5)) r6 (r6.len : Int) (Int.toNat (IntKind.i64.wrap (((Int.toNat (IntKind.i64.wrap ((p0.len : Int) + 1)) : Nat) : Int) - (r6.len : Int)))) (Int.toNat (IntKind.i64.wrap (((Int.toNat (IntKind.i64.wrap ((p0.len : Int) + 1)) : Nat) : Int) - (r6.len : Int))))) x3 V7))) ∧
        ((((Int.fdiv (IntKind.u64.wrap ((IntKind.u64.wrap ((IntKind.u64.wrap x26) - x22.t18)) - x22.t17)) (2 ^ (min (Int.toNat 63) (IntKind.u64.bits)))) : Int) == 1) = false →
          ((0 : Int) ≤ x3.t13 ∧ (x3.t13 : Int) < (Int.toNat (IntKind.i64.wrap (((Int.toNat (IntKind.i64.wrap ((p0.len : Int) + 1)) : Nat) : Int) - (r6.len : Int))) : Nat)) ∧
        0 + Int.toNat x3.t13 * 1 + 1 ≤ List.length x22.o69 ∧
        I_ref1_NatDiv_0 (C_ref1_NatDiv_0.mk (IntKind.i64.wrap ((IntKind.i64.wrap (32 * (p1.len : Int))) - r5)) r6 (r6.len : Int) (Int.toNat (IntKind.i64.wrap (((Int.toNat (IntKind.i64.wrap ((p0.len : Int) + 1)) : Nat) : Int) - (r6.len : Int)))) (Int.toNat (IntKind.i64.wrap (((Int.toNat (IntKind.i64.wrap ((p0.len : Int) + 1)) : Nat) : Int) - (r6.len : Int))))) (L_ref1_NatDiv_0.mk (IntKind.i64.wrap (x3.t13 - 1)) (List.set x22.o57 (0 + Int.toNat (IntKind.i64.wrap (x3.t13 + (r6.len : Int))) * 1) (.int .u32 (IntKind.u32.wrap (IntKind.u64.wrap ((IntKind.u64.wrap ((IntKind.u64.wrap x26) - x22.t18)) - x22.t17))))) (List.set x22.o69 (0 + Int.toNat x3.t13 * 1) (.int .u32 (IntKind.u32.wrap x8.t15)))) V10 ∧ mu_ref1_NatDiv_0 (C_ref1_NatDiv_0.mk (IntKind.i64.wrap ((IntKind.i64.wrap (32 * (p1.len : Int))) - r5)) r6 (r6.len : Int) (Int.toNat (IntKind.i64.wrap (((Int.toNat (IntKind.i64.wrap ((p0.len : Int) + 1)) : Nat) : Int) - (r6.len : Int)))) (Int.toNat (IntKind.i64.wrap (((Int.toNat (IntKind.i64.wrap ((p0.len : Int) + 1)) : Nat) : Int) - (r6.len : Int))))) (L_ref1_NatDiv_0.mk (IntKind.i64.wrap (x3.t13 - 1)) (List.set x22.o57 (0 + Int.toNat (IntKind.i64.wrap (x3.t13 + (r6.len : Int))) * 1) (.int .u32 (IntKind.u32.wrap (IntKind.u64.wrap ((IntKind.u64.wrap ((IntKind.u64.wrap x26) - x22.t18)) - x22.t17))))) (List.set x22.o69 (0 + Int.toNat x3.t13 * 1) (.int .u32 (IntKind.u32.wrap x8.t15)))) V10 < mu_ref1_NatDiv_0 (C_ref1_NatDiv_0.mk (IntKind.i64.wrap ((IntKind.i64.wrap (32 * (p1.len : Int))) - r5)) r6 (r6.len : Int) (Int.toNat (IntKind.i64.wrap (((Int.toNat (IntKind.i64.wrap ((p0.len : Int) + 1)) : Nat) : Int) - (r6.len : Int)))) (Int.toNat (IntKind.i64.wrap (((Int.toNat (IntKind.i64.wrap ((p0.len : Int) + 1)) : Nat) : Int) - (r6.len : Int))))) x3 V7))))) ∧
      ((decide ((x3.t13 : Int) ≥ 0)) = false →
        ∀ (b1 : Nat) (V12 : View), View.le V7 V12 → V12 b1 = some (List.toArray x3.o69) →
    ∀ (b2 : Nat) (V13 : View), View.le V12 V13 → V13 b2 = some (List.toArray x3.o57) →
    ((0 : Int) ≤ 0 ∧ (0 : Int) ≤ (r6.len : Int) ∧ ((r6.len : Int) : Int) ≤ ((Int.toNat (IntKind.i64.wrap ((p0.len : Int) + 1))) : Nat)) ∧
    CallV Try.prog 142 #[(Sl.mk (some (Addr.mk b1 0 none)) (Int.toNat (IntKind.i64.wrap (((Int.toNat (IntKind.i64.wrap ((p0.len : Int) + 1)) : Nat) : Int) - (r6.len : Int)))) (Int.toNat (IntKind.i64.wrap (((Int.toNat (IntKind.i64.wrap ((p0.len : Int) + 1)) : Nat) : Int) - (r6.len : Int))))).v] V13 fun v V14 => ∃ r8 : Sl, v = r8.v ∧ -- waveportref01.trim
    CallV Try.prog 142 #[(Sl.mk (if (Int.toNat (IntKind.i64.wrap ((p0.len : Int) + 1))) = Int.toNat 0 then (some (Addr.mk b2 0 none)) else Option.map (fun q => Addr.add q (Int.toNat 0 * 1)) (some (Addr.mk b2 0 none))) (Int.toNat (r6.len : Int) - Int.toNat 0) ((Int.toNat (IntKind.i64.wrap ((p0.len : Int) + 1))) - Int.toNat 0)).v] V14 fun v V15 => ∃ r9 : Sl, v = r9.v ∧ -- waveportref01.trim
    CallV Try.prog 166 #[r9.v, .int .i64 (IntKind.i64.wrap ((IntKind.i64.wrap (32 * (p1.len : Int))) - r5))] V15 fun v V16 => ∃ r10 : Sl, v = r10.v ∧ -- waveportref01.NatShr
    R (.tuple #[r8.v, r10.v]) V16))))) :
  CallV Try.prog 138 #[p0.v, p1.v] V R :=
  calls_of_vc (Shp := Shp) hmixed Try.func138 (c := Try.f138.body.getD .skip) (args := [p0.v, p1.v]) (by kernel_rfl)
    (.seq (.reg [⟨4, 2, false⟩, ⟨5, 2, false⟩]) (.seq (.seq (.reg [⟨25, 2, false⟩, ⟨26, 2, false⟩, ⟨27, 10, false⟩, ⟨28, 0, false⟩]) (.cond (.seq (.reg [⟨29, 2, false⟩, ⟨4, 2, false⟩, ⟨5, 2, false⟩]) .leaf) .leaf)) (.seq (.seq (.reg [⟨30, 2, false⟩, ⟨31, 0, false⟩, ⟨32, 0, false⟩]) (.cond (.seq (.reg [⟨34, 2, false⟩, ⟨35, 2, false⟩, ⟨36, 7, false⟩, ⟨37, 5, false⟩, ⟨38, 10, false⟩, ⟨33, 2, false⟩, ⟨39, 0, false⟩, ⟨40, 0, false⟩, ⟨6, 2, false⟩, ⟨7, 2, false⟩]) (.seq (.reg [⟨41, 2, false⟩, ⟨42, 2, false⟩, ⟨43, 0, false⟩, ⟨44, 10, false⟩, ⟨4, 2, false⟩, ⟨5, 2, false⟩]) .leaf)) .leaf)) (.seq (.reg [⟨45, 2, false⟩, ⟨46, 0, false⟩, ⟨47, 0, false⟩, ⟨48, 2, false⟩, ⟨49, 10, false⟩, ⟨50, 0, false⟩, ⟨8, 2, false⟩]) (.seq (.reg [⟨51, 2, false⟩, ⟨52, 2, false⟩, ⟨53, 10, false⟩, ⟨9, 2, false⟩]) (.seq (.reg [⟨54, 2, false⟩, ⟨55, 0, false⟩, ⟨56, 0, false⟩, ⟨57, 3, false⟩, ⟨10, 2, false⟩]) (.seq (.reg [⟨58, 2, false⟩, ⟨59, 2, false⟩, ⟨60, 2, false⟩, ⟨61, 10, false⟩, ⟨57, 16, false⟩]) (.seq (.reg [⟨63, 2, false⟩, ⟨64, 0, false⟩, ⟨11, 2, false⟩]) (.seq (.reg [⟨65, 2, false⟩, ⟨66, 7, false⟩, ⟨67, 2, false⟩, ⟨68, 0, false⟩, ⟨69, 3, false⟩, ⟨12, 2, false⟩]) (.seq (.seq (.reg [⟨70, 2, false⟩, ⟨71, 7, false⟩, ⟨72, 0, false⟩, ⟨13, 2, false⟩]) (.block (.loop C_ref1_NatDiv_0 L_ref1_NatDiv_0 (fun σ => C_ref1_NatDiv_0.mk (gInt (gTm σ 8)) (Sl.mk (gSlA (gTm σ 9)) (gSlL (gTm σ 9)) (gSlC (gTm σ 9))) (gInt (gTm σ 11)) (gLen (gTm σ 12)) (gCap (gTm σ 12))) (fun c x => { tm := spT 262 0 [(8, .val (.int .i64 c.t8)), (9, .val (c.t9.v)), (10, .osl 57 0 (Int.toNat (IntKind.i64.wrap ((p0.len : Int) + 1))) (Int.toNat (IntKind.i64.wrap ((p0.len : Int) + 1)))), (11, .val (.int .i64 c.t11)), (12, .osl 69 0 c.t12l c.t12c), (13, .val (.int .i64 x.t13))], own := spO 262 0 [(57, ⟨142, .dyn x.o57⟩), (69, ⟨142, .dyn x.o69⟩)] }) I_ref1_NatDiv_0 mu_ref1_NatDiv_0 (.seq (.seq (.reg [⟨73, 2, false⟩, ⟨74, 0, false⟩]) (.cond .leaf .leaf)) (.seq (.block (.seq (.draw [(0, ⟨77, 2, false⟩), (1, ⟨78, 2, false⟩), (2, ⟨79, 2, false⟩), (3, ⟨80, 0, false⟩), (4, ⟨81, 7, false⟩), (5, ⟨57, 4, false⟩), (6, ⟨83, 0, false⟩), (7, ⟨84, 0, false⟩), (8, ⟨85, 2, false⟩), (9, ⟨86, 2, false⟩), (10, ⟨87, 2, false⟩), (11, ⟨88, 0, false⟩), (12, ⟨89, 0, false⟩), (13, ⟨90, 7, false⟩), (14, ⟨57, 4, false⟩), (15, ⟨92, 0, false⟩), (16, ⟨93, 0, false⟩), (17, ⟨14, 2, false⟩)] [0, 0, 0, 6, 15, 31, 63, 127, 0, 0, 0, 1536, 3584, 7936, 16128, 32512, 65535, 131071]) (.seq (.reg [⟨94, 2, false⟩, ⟨95, 2, false⟩, ⟨96, 2, false⟩, ⟨97, 0, false⟩, ⟨98, 7, false⟩, ⟨99, 5, false⟩, ⟨100, 0, false⟩, ⟨101, 12, false⟩, ⟨15, 2, false⟩]) (.seq (.reg [⟨102, 2, false⟩, ⟨103, 2, false⟩, ⟨104, 2, false⟩, ⟨105, 0, false⟩, ⟨106, 7, false⟩, ⟨107, 5, false⟩, ⟨108, 0, false⟩, ⟨109, 12, false⟩, ⟨16, 2, false⟩]) (.cut C_ref1_NatDiv_1 L_ref1_NatDiv_1 (fun σ => C_ref1_NatDiv_1.mk (gInt (gTm σ 8)) (Sl.mk (gSlA (gTm σ 9)) (gSlL (gTm σ 9)) (gSlC (gTm σ 9))) (gInt (gTm σ 11)) (gLen (gTm σ 12)) (gCap (gTm σ 12)) (gInt (gTm σ 13)) (gDyn σ 57) (gDyn σ 69)) (fun c x => { tm := spT 262 0 [(8, .val (.int .i64 c.t8)), (9, .val (c.t9.v)), (10, .osl 57 0 (Int.toNat (IntKind.i64.wrap ((p0.len : Int) + 1))) (Int.toNat (IntKind.i64.wrap ((p0.len : Int) + 1)))), (11, .val (.int .i64 c.t11)), (12, .osl 69 0 c.t12l c.t12c), (13, .val (.int .i64 c.t13)), (15, .val (.int .u64 x.t15))], own := spO 262 0 [(57, ⟨142, .dyn c.o57⟩), (69, ⟨142, .dyn c.o69⟩)] }) I_ref1_NatDiv_1 (.block (.loop C_ref1_NatDiv_2 L_ref1_NatDiv_2 (fun σ => C_ref1_NatDiv_2.mk (gInt (gTm σ 8)) (Sl.mk (gSlA (gTm σ 9)) (gSlL (gTm σ 9)) (gSlC (gTm σ 9))) (gInt (gTm σ 11)) (gLen (gTm σ 12)) (gCap (gTm σ 12)) (gInt (gTm σ 13)) (gDyn σ 57) (gDyn σ 69)) (fun c x => { tm := spT 262 0 [(8, .val (.int .i64 c.t8)), (9, .val (c.t9.v)), (10, .osl 57 0 (Int.toNat (IntKind.i64.wrap ((p0.len : Int) + 1))) (Int.toNat (IntKind.i64.wrap ((p0.len : Int) + 1)))), (11, .val (.int .i64 c.t11)), (12, .osl 69 0 c.t12l c.t12c), (13, .val (.int .i64 c.t13)), (15, .val (.int .u64 x.t15)), (16, .val (.int .u64 x.t16))], own := spO 262 0 [(57, ⟨142, .dyn c.o57⟩), (69, ⟨142, .dyn c.o69⟩)] }) I_ref1_NatDiv_2 mu_ref1_NatDiv_2 (.seq (.seq (.draw [(0, ⟨110, 2, false⟩), (1, ⟨111, 0, false⟩), (2, ⟨112, 2, true⟩), (3, ⟨113, 2, false⟩), (4, ⟨114, 2, false⟩), (5, ⟨115, 2, false⟩), (6, ⟨116, 0, false⟩), (7, ⟨117, 7, false⟩), (8, ⟨118, 5, false⟩), (9, ⟨119, 0, false⟩), (10, ⟨120, 0, false⟩), (11, ⟨121, 2, false⟩), (12, ⟨122, 0, false⟩), (13, ⟨123, 2, false⟩), (14, ⟨124, 2, false⟩), (15, ⟨125, 2, false⟩), (16, ⟨126, 0, false⟩), (17, ⟨127, 0, false⟩), (18, ⟨128, 7, false⟩), (19, ⟨57, 4, false⟩), (20, ⟨130, 0, false⟩), (21, ⟨131, 0, false⟩), (22, ⟨132, 0, false⟩), (23, ⟨133, 2, false⟩)] [0, 1, 3, 7, 7, 7, 39, 119, 247, 503, 1023, 7, 2055, 7, 7, 7, 49159, 114695, 253959, 516103, 1040391, 2095111, 4194303, 8388607]) (.cond .leaf .leaf)) (.block (.seq (.reg [⟨134, 2, false⟩, ⟨135, 0, false⟩, ⟨15, 2, false⟩]) (.seq (.reg [⟨136, 2, false⟩, ⟨137, 2, false⟩, ⟨138, 2, false⟩, ⟨139, 0, false⟩, ⟨140, 7, false⟩, ⟨141, 5, false⟩, ⟨142, 0, false⟩, ⟨143, 0, false⟩, ⟨16, 2, false⟩]) (.seq (.reg [⟨144, 2, false⟩, ⟨145, 0, false⟩]) (.cond .leaf .leaf)))))))) (.seq (.reg [⟨17, 2, false⟩]) (.seq (.reg [⟨18, 2, false⟩]) (.seq (.seq (.reg [⟨19, 2, false⟩]) (.block (.loop C_ref1_NatDiv_3 L_ref1_NatDiv_3 (fun σ => C_ref1_NatDiv_3.mk (gInt (gTm σ 8)) (Sl.mk (gSlA (gTm σ 9)) (gSlL (gTm σ 9)) (gSlC (gTm σ 9))) (gInt (gTm σ 11)) (gLen (gTm σ 12)) (gCap (gTm σ 12)) (gInt (gTm σ 13)) (gInt (gTm σ 15))) (fun c x => { tm := spT 262 0 [(8, .val (.int .i64 c.t8)), (9, .val (c.t9.v)), (10, .osl 57 0 (Int.toNat (IntKind.i64.wrap ((p0.len : Int) + 1))) (Int.toNat (IntKind.i64.wrap ((p0.len : Int) + 1)))), (11, .val (.int .i64 c.t11)), (12, .osl 69 0 c.t12l c.t12c), (13, .val (.int .i64 c.t13)), (15, .val (.int .u64 c.t15)), (17, .val (.int .u64 x.t17)), (18, .val (.int .u64 x.t18)), (19, .val (.int .i64 x.t19))], own := spO 262 0 [(57, ⟨142, .dyn x.o57⟩), (69, ⟨142, .dyn x.o69⟩)] }) I_ref1_NatDiv_3 mu_ref1_NatDiv_3 (.seq (.seq (.reg [⟨146, 2, false⟩, ⟨147, 2, false⟩, ⟨148, 0, false⟩]) (.cond .leaf .leaf)) (.seq (.block (.seq (.reg [⟨151, 2, false⟩, ⟨152, 2, false⟩, ⟨153, 2, false⟩, ⟨154, 7, false⟩, ⟨155, 5, false⟩, ⟨156, 0, false⟩, ⟨157, 0, false⟩, ⟨158, 2, false⟩, ⟨159, 0, false⟩, ⟨20, 2, false⟩]) (.seq (.reg [⟨160, 2, false⟩, ⟨161, 0, false⟩, ⟨18, 2, false⟩]) (.seq (.reg [⟨162, 2, false⟩, ⟨163, 2, false⟩, ⟨164, 2, false⟩, ⟨165, 0, false⟩, ⟨166, 7, false⟩, ⟨57, 4, false⟩, ⟨168, 0, false⟩, ⟨169, 2, false⟩, ⟨170, 0, false⟩, ⟨171, 0, false⟩, ⟨172, 2, false⟩, ⟨173, 0, false⟩, ⟨21, 2, false⟩]) (.seq (.reg [⟨174, 2, false⟩, ⟨175, 2, false⟩, ⟨176, 2, false⟩, ⟨177, 0, false⟩, ⟨178, 2, false⟩, ⟨179, 0, false⟩, ⟨180, 7, false⟩, ⟨57, 6, false⟩]) (.reg [⟨181, 2, false⟩, ⟨182, 0, false⟩, ⟨17, 2, false⟩])))))) (.reg [⟨149, 2, false⟩, ⟨150, 0, false⟩, ⟨19, 2, false⟩])))))) (.seq (.reg [⟨183, 2, false⟩, ⟨184, 2, false⟩, ⟨185, 2, false⟩, ⟨186, 0, false⟩, ⟨187, 7, false⟩, ⟨57, 4, false⟩, ⟨189, 0, false⟩, ⟨190, 2, false⟩, ⟨191, 0, false⟩, ⟨192, 2, false⟩, ⟨193, 0, false⟩, ⟨22, 2, false⟩]) (.seq (.reg [⟨194, 2, false⟩, ⟨195, 2, false⟩, ⟨196, 2, false⟩, ⟨197, 0, false⟩, ⟨198, 2, false⟩, ⟨199, 0, false⟩, ⟨200, 7, false⟩, ⟨57, 6, false⟩]) (.seq (.seq (.reg [⟨201, 2, false⟩, ⟨202, 0, false⟩, ⟨203, 0, false⟩]) (.cond (.seq (.reg [⟨204, 2, false⟩, ⟨205, 0, false⟩, ⟨15, 2, false⟩]) (.seq (.reg [⟨18, 2, false⟩]) (.seq (.seq (.reg [⟨23, 2, false⟩]) (.block (.loop C_ref1_NatDiv_4 L_ref1_NatDiv_4 (fun σ => C_ref1_NatDiv_4.mk (gInt (gTm σ 8)) (Sl.mk (gSlA (gTm σ 9)) (gSlL (gTm σ 9)) (gSlC (gTm σ 9))) (gInt (gTm σ 11)) (gLen (gTm σ 12)) (gCap (gTm σ 12)) (gInt (gTm σ 13)) (gInt (gTm σ 15))) (fun c x => { tm := spT 262 0 [(8, .val (.int .i64 c.t8)), (9, .val (c.t9.v)), (10, .osl 57 0 (Int.toNat (IntKind.i64.wrap ((p0.len : Int) + 1))) (Int.toNat (IntKind.i64.wrap ((p0.len : Int) + 1)))), (11, .val (.int .i64 c.t11)), (12, .osl 69 0 c.t12l c.t12c), (13, .val (.int .i64 c.t13)), (15, .val (.int .u64 c.t15)), (18, .val (.int .u64 x.t18)), (23, .val (.int .i64 x.t23))], own := spO 262 0 [(57, ⟨142, .dyn x.o57⟩), (69, ⟨142, .dyn x.o69⟩)] }) I_ref1_NatDiv_4 mu_ref1_NatDiv_4 (.seq (.seq (.reg [⟨206, 2, false⟩, ⟨207, 2, false⟩, ⟨208, 0, false⟩]) (.cond .leaf .leaf)) (.seq (.block (.seq (.draw [(0, ⟨211, 2, false⟩), (1, ⟨212, 2, false⟩), (2, ⟨213, 2, false⟩), (3, ⟨214, 0, false⟩), (4, ⟨215, 7, false⟩), (5, ⟨57, 4, false⟩), (6, ⟨217, 0, false⟩), (7, ⟨218, 2, false⟩), (8, ⟨219, 2, false⟩), (9, ⟨220, 7, false⟩), (10, ⟨221, 5, false⟩), (11, ⟨222, 0, false⟩), (12, ⟨223, 0, false⟩), (13, ⟨224, 2, false⟩), (14, ⟨225, 0, false⟩), (15, ⟨24, 2, false⟩)] [0, 0, 0, 6, 15, 31, 63, 0, 0, 384, 896, 1920, 4095, 0, 16383, 32767]) (.seq (.reg [⟨226, 2, false⟩, ⟨227, 2, false⟩, ⟨228, 2, false⟩, ⟨229, 0, false⟩, ⟨230, 2, false⟩, ⟨231, 0, false⟩, ⟨232, 7, false⟩, ⟨57, 6, false⟩]) (.reg [⟨233, 2, false⟩, ⟨234, 0, false⟩, ⟨18, 2, false⟩])))) (.reg [⟨209, 2, false⟩, ⟨210, 0, false⟩, ⟨23, 2, false⟩])))))) (.reg [⟨235, 2, false⟩, ⟨236, 2, false⟩, ⟨237, 2, false⟩, ⟨238, 0, false⟩, ⟨239, 2, false⟩, ⟨240, 2, false⟩, ⟨241, 2, false⟩, ⟨242, 0, false⟩, ⟨243, 7, false⟩, ⟨57, 4, false⟩, ⟨245, 2, false⟩, ⟨246, 0, false⟩, ⟨247, 0, false⟩, ⟨248, 7, false⟩, ⟨57, 6, false⟩])))) .leaf)) (.reg [⟨249, 2, false⟩, ⟨250, 2, false⟩, ⟨251, 2, false⟩, ⟨252, 0, false⟩, ⟨253, 7, false⟩, ⟨69, 6, false⟩])))))))))))) (.reg [⟨75, 2, false⟩, ⟨76, 0, false⟩, ⟨13, 2, false⟩])))))) (.seq (.pub 69 (.pub 57 (.draw [(0, ⟨254, 2, false⟩), (2, ⟨256, 2, false⟩), (3, ⟨257, 2, false⟩), (4, ⟨258, 7, false⟩), (6, ⟨260, 2, false⟩), (1, ⟨255, 10, false⟩), (5, ⟨259, 10, false⟩), (7, ⟨261, 10, false⟩), (8, ⟨4, 2, false⟩), (9, ⟨5, 2, false⟩)] [0, 1, 0, 0, 12, 31, 0, 127, 255, 511]))) .leaf)))))))))))
    (Eq.mpr (by kernel_rfl) (show CallV Try.prog 140 #[p0.v, p1.v] V fun v V1 => ∃ r1 : Int, v = .int .i64 r1 ∧ -- waveportref01.NatCmp
    ((decide ((r1 : Int) < 0)) = true →
      R (.tuple #[(Sl.mk none 0 0).v, p0.v]) V1) ∧
    ((decide ((r1 : Int) < 0)) = false →
      ((((p1.len : Int) : Int) == 1) = true →
      ((0 : Int) ≤ 0 ∧ (0 : Int) < (p1.len : Nat) ∧ Option.isSome p1.a = true) ∧
      ∃ x1 : Int, View.load V1 (Option.map (fun q => Addr.add q (Int.toNat 0 * 1)) p1.a) = some (.int .u32 x1) ∧
      CallV Try.prog 163 #[p0.v, .int .u32 x1] V1 fun v V2 => ∃ (r2 : Sl) (r3 : Int), v = .tuple #[r2.v, .int .u32 r3] ∧ -- waveportref01.natDigit
      CallV Try.prog 135 #[.int .u64 (IntKind.u64.wrap r3)] V2 fun v V3 => ∃ r4 : Sl, v = r4.v ∧ -- waveportref01.NatOf
      R (.tuple #[r2.v, r4.v]) V3) ∧
    ((((p1.len : Int) : Int) == 1) = false →
      CallV Try.prog 164 #[p1.v] V1 fun v V4 => ∃ r5 : Int, v = .int .i64 r5 ∧ -- waveportref01.NatBits
    CallV Try.prog 165 #[p1.v, .int .i64 (IntKind.i64.wrap ((IntKind.i64.wrap (32 * (p1.len : Int))) - r5))] V4 fun v V5 => ∃ r6 : Sl, v = r6.v ∧ -- waveportref01.NatShl
    ((0 : Int) ≤ (IntKind.i64.wrap ((p0.len : Int) + 1)) ∧ ((IntKind.i64.wrap ((p0.len : Int) + 1)) : Int) ≤ (IntKind.i64.wrap ((p0.len : Int) + 1)) ∧ (4 : Int) * (IntKind.i64.wrap ((p0.len : Int) + 1)) ≤ 281474976710656 ∧ ((IntKind.i64.wrap ((p0.len : Int) + 1)) : Int) ≤ 9223372036854775807) ∧
    CallV Try.prog 165 #[p0.v, .int .i64 (IntKind.i64.wrap ((IntKind.i64.wrap (32 * (p1.len : Int))) - r5))] V5 fun v V6 => ∃ r7 : Sl, v = r7.v ∧ -- waveportref01.NatShl
    ∃ l1 : List Value, View.has V6 r7.a l1 ∧ List.length l1 = (min r7.len (Int.toNat (IntKind.i64.wrap ((p0.len : Int) + 1)))) * 1 ∧ (l1 = [] ∨ Option.isSome r7.a = true) ∧ (∀ v ∈ l1, Value.oneCell' v = true) ∧ 0 + List.length l1 ≤ List.length ((List.replicate (Int.toNat (IntKind.i64.wrap ((p0.len : Int) + 1))) [Value.int .u32 0]).flatten) ∧
    ((0 : Int) ≤ (IntKind.i64.wrap (((Int.toNat (IntKind.i64.wrap ((p0.len : Int) + 1)) : Nat) : Int) - (r6.len : Int))) ∧ ((IntKind.i64.wrap (((Int.toNat (IntKind.i64.wrap ((p0.len : Int) + 1)) : Nat) : Int) - (r6.len : Int))) : Int) ≤ (IntKind.i64.wrap (((Int.toNat (IntKind.i64.wrap ((p0.len : Int) + 1)) : Nat) : Int) - (r6.len : Int))) ∧ (4 : Int) * (IntKind.i64.wrap (((Int.toNat (IntKind.i64.wrap ((p0.len : Int) + 1)) : Nat) : Int) - (r6.len : Int))) ≤ 281474976710656 ∧ ((IntKind.i64.wrap (((Int.toNat (IntKind.i64.wrap ((p0.len : Int) + 1)) : Nat) : Int) - (r6.len : Int))) : Int) ≤ 9223372036854775807) ∧
    (∃ x2 : L_ref1_NatDiv_0, ((SV.val (.int .i64 (IntKind.i64.wrap ((IntKind.i64.wrap (32 * (p1.len : Int))) - r5))) = SV.val (.int .i64 (IntKind.i64.wrap ((IntKind.i64.wrap (32 * (p1.len : Int))) - r5))) ∧ SV.val (r6.v) = SV.val (r6.v) ∧ SV.osl 57 0 (Int.toNat (IntKind.i64.wrap ((p0.len : Int) + 1))) (Int.toNat (IntKind.i64.wrap ((p0.len : Int) + 1))) = SV.osl 57 0 (Int.toNat (IntKind.i64.wrap ((p0.len : Int) + 1))) (Int.toNat (IntKind.i64.wrap ((p0.len : Int) + 1))) ∧ SV.val (.int .i64 (r6.len : Int)) = SV.val (.int .i64 (r6.len : Int)) ∧ SV.osl 69 0 (Int.toNat (IntKind.i64.wrap (((Int.toNat (IntKind.i64.wrap ((p0.len : Int) + 1)) : Nat) : Int) - (r6.len : Int)))) (Int.toNat (IntKind.i64.wrap (((Int.toNat (IntKind.i64.wrap ((p0.len : Int) + 1)) : Nat) : Int) - (r6.len : Int)))) = SV.osl 69 0 (Int.toNat (IntKind.i64.wrap (((Int.toNat (IntKind.i64.wrap ((p0.len : Int) + 1)) : Nat) : Int) - (r6.len : Int)))) (Int.toNat (IntKind.i64.wrap (((Int.toNat (IntKind.i64.wrap ((p0.len : Int) + 1)) : Nat) : Int) - (r6.len : Int)))) ∧ SV.val (.int .i64 (IntKind.i64.wrap (((Int.toNat (IntKind.i64.wrap (((Int.toNat (IntKind.i64.wrap ((p0.len : Int) + 1)) : Nat) : Int) - (r6.len : Int))) : Nat) : Int) - 1))) = SV.val (.int .i64 x2.t13) ∧ True) ∧ ((some (⟨142, .dyn (setL ((List.replicate (Int.toNat (IntKind.i64.wrap ((p0.len : Int) + 1))) [Value.int .u32 0]).flatten) 0 l1)⟩) : Option OB) = some (⟨142, .dyn x2.o57⟩) ∧ (some (⟨142, .dyn ((List.replicate (Int.toNat (IntKind.i64.wrap (((Int.toNat (IntKind.i64.wrap ((p0.len : Int) + 1)) : Nat) : Int) - (r6.len : Int)))) [Value.int .u32 0]).flatten)⟩) : Option OB) = some (⟨142, .dyn x2.o69⟩) ∧ True)) ∧ I_ref1_NatDiv_0 (C_ref1_NatDiv_0.mk (IntKind.i64.wrap ((IntKind.i64.wrap (32 * (p1.len : Int))) - r5)) r6 (r6.len : Int) (Int.toNat (IntKind.i64.wrap (((Int.toNat (IntKind.i64.wrap ((p0.len : Int) + 1)) : Nat) : Int) - (r6.len : Int)))) (Int.toNat (IntKind.i64.wrap (((Int.toNat (IntKind.i64.wrap ((p0.len : Int) + 1)) : Nat) : Int) - (r6.len : Int))))) x2 V6) ∧
    (∀ (x3 : L_ref1_NatDiv_0) (V7 : View), View.le V6 V7 → I_ref1_NatDiv_0 (C_ref1_NatDiv_0.mk (IntKind.i64.wrap ((IntKind.i64.wrap (32 * (p1.len : Int))) - r5)) r6 (r6.len : Int) (Int.toNat (IntKind.i64.wrap (((Int.toNat (IntKind.i64.wrap ((p0.len : Int) + 1)) : Nat) : Int) - (r6.len : Int)))) (Int.toNat (IntKind.i64.wrap (((Int.toNat (IntKind.i64.wrap ((p0.len : Int) + 1)) : Nat) : Int) - (r6.len : Int))))) x3 V7 →
      ((decide ((x3.t13 : Int) ≥ 0)) = true →
        ((0 : Int) ≤ (IntKind.i64.wrap (x3.t13 + (r6.len : Int))) ∧ ((IntKind.i64.wrap (x3.t13 + (r6.len : Int))) : Int) < (Int.toNat (IntKind.i64.wrap ((p0.len : Int) + 1)) : Nat)) ∧
      ∃ x4 : Int, x3.o57[0 + Int.toNat (IntKind.i64.wrap (x3.t13 + (r6.len : Int))) * 1]? = some (.int .u32 x4) ∧
      ((0 : Int) ≤ (IntKind.i64.wrap ((IntKind.i64.wrap (x3.t13 + (r6.len : Int))) - 1)) ∧ ((IntKind.i64.wrap ((IntKind.i64.wrap (x3.t13 + (r6.len : Int))) - 1)) : Int) < (Int.toNat (IntKind.i64.wrap ((p0.len : Int) + 1)) : Nat)) ∧
      ∃ x5 : Int, x3.o57[0 + Int.toNat (IntKind.i64.wrap ((IntKind.i64.wrap (x3.t13 + (r6.len : Int))) - 1)) * 1]? = some (.int .u32 x5) ∧
      ((0 : Int) ≤ (IntKind.i64.wrap ((r6.len : Int) - 1)) ∧ ((IntKind.i64.wrap ((r6.len : Int) - 1)) : Int) < (r6.len : Nat) ∧ Option.isSome r6.a = true) ∧
      ∃ x6 : Int, View.load V7 (Option.map (fun q => Addr.add q (Int.toNat (IntKind.i64.wrap ((r6.len : Int) - 1)) * 1)) r6.a) = some (.int .u32 x6) ∧
      ((IntKind.u64.wrap x6) : Int) ≠ 0 ∧
      ((0 : Int) ≤ (IntKind.i64.wrap ((r6.len : Int) - 1)) ∧ ((IntKind.i64.wrap ((r6.len : Int) - 1)) : Int) < (r6.len : Nat) ∧ Option.isSome r6.a = true) ∧
      ∃ x7 : Int, View.load V7 (Option.map (fun q => Addr.add q (Int.toNat (IntKind.i64.wrap ((r6.len : Int) - 1)) * 1)) r6.a) = some (.int .u32 x7) ∧
      ((IntKind.u64.wrap x7) : Int) ≠ 0 ∧
      ((∃ x9 : L_ref1_NatDiv_2, ((SV.val (.int .i64 (IntKind.i64.wrap ((IntKind.i64.wrap (32 * (p1.len : Int))) - r5))) = SV.val (.int .i64 (IntKind.i64.wrap ((IntKind.i64.wrap (32 * (p1.len : Int))) - r5))) ∧ SV.val (r6.v) = SV.val (r6.v) ∧ SV.osl 57 0 (Int.toNat (IntKind.i64.wrap ((p0.len : Int) + 1))) (Int.toNat (IntKind.i64.wrap ((p0.len : Int) + 1))) = SV.osl 57 0 (Int.toNat (IntKind.i64.wrap ((p0.len : Int) + 1))) (Int.toNat (IntKind.i64.wrap ((p0.len : Int) + 1))) ∧ SV.val (.int .i64 (r6.len : Int)) = SV.val (.int .i64 (r6.len : Int)) ∧ SV.osl 69 0 (Int.toNat (IntKind.i64.wrap (((Int.toNat (IntKind.i64.wrap ((p0.len : Int) + 1)) : Nat) : Int) - (r6.len : Int)))) (Int.toNat (IntKind.i64.wrap (((Int.toNat (IntKind.i64.wrap ((p0.len : Int) + 1)) : Nat) : Int) - (r6.len : Int)))) = SV.osl 69 0 (Int.toNat (IntKind.i64.wrap (((Int.toNat (IntKind.i64.wrap ((p0.len : Int) + 1)) : Nat) : Int) - (r6.len : Int)))) (Int.toNat (IntKind.i64.wrap (((Int.toNat (IntKind.i64.wrap ((p0.len : Int) + 1)) : Nat) : Int) - (r6.len : Int)))) ∧ SV.val (.int .i64 x3.t13) = SV.val (.int .i64 x3.t13) ∧ SV.val (.int .u64 (IntKind.u64.wrap (Int.tdiv (IntKind.u64.wrap (BitVec.toNat ((BitVec.ofInt IntKind.u64.bits (IntKind.u64.wrap ((IntKind.u64.wrap x4) * 2 ^ (min (Int.toNat 32) (IntKind.u64.bits))))) ||| (BitVec.ofInt IntKind.u64.bits (IntKind.u64.wrap x5))))) (IntKind.u64.wrap x6)))) = SV.val (.int .u64 x9.t15) ∧ SV.val (.int .u64 (Int.tmod (IntKind.u64.wrap (BitVec.toNat ((BitVec.ofInt IntKind.u64.bits (IntKind.u64.wrap ((IntKind.u64.wrap x4) * 2 ^ (min (Int.toNat 32) (IntKind.u64.bits))))) ||| (BitVec.ofInt IntKind.u64.bits (IntKind.u64.wrap x5))))) (IntKind.u64.wrap x7))) = SV.val (.int .u64 x9.t16) ∧ True) ∧ ((some (⟨142, .dyn x3.o57⟩) : Option OB) = some (⟨142, .dyn x3.o57⟩) ∧ (some (⟨142, .dyn x3.o69⟩) : Option OB) = some (⟨142, .dyn x3.o69⟩) ∧ True)) ∧ I_ref1_NatDiv_2 (C_ref1_NatDiv_2.mk (IntKind.i64.wrap ((IntKind.i64.wrap (32 * (p1.len : Int))) - r5)) r6 (r6.len : Int) (Int.toNat (IntKind.i64.wrap (((Int.toNat (IntKind.i64.wrap ((p0.len : Int) + 1)) : Nat) : Int) - (r6.len : Int)))) (Int.toNat (IntKind.i64.wrap (((Int.toNat (IntKind.i64.wrap ((p0.len : Int) + 1)) : Nat) : Int) - (r6.len : Int)))) x3.t13 x3.o57 x3.o69) x9 V7) ∧
        (∀ (x10 : L_ref1_NatDiv_2) (V9 : View), View.le V7 V9 → I_ref1_NatDiv_2 (C_ref1_NatDiv_2.mk (IntKind.i64.wrap ((IntKind.i64.wrap (32 * (p1.len : Int))) - r5)) r6 (r6.len : Int) (Int.toNat (IntKind.i64.wrap (((Int.toNat (IntKind.i64.wrap ((p0.len : Int) + 1)) : Nat) : Int) - (r6.len : Int)))) (Int.toNat (IntKind.i64.wrap (((Int.toNat (IntKind.i64.wrap ((p0.len : Int) + 1)) : Nat) : Int) - (r6.len : Int)))) x3.t13 x3.o57 x3.o69) x10 V9 →
          ((decide ((x10.t15 : Int) ≥ 4294967296)) = true →
          (true = true →
            ((0 : Int) ≤ (IntKind.i64.wrap ((r6.len : Int) - 1)) ∧ ((IntKind.i64.wrap ((r6.len : Int) - 1)) : Int) < (r6.len : Nat) ∧ Option.isSome r6.a = true) ∧
          ∃ x11 : Int, View.load V9 (Option.map (fun q => Addr.add q (Int.toNat (IntKind.i64.wrap ((r6.len : Int) - 1)) * 1)) r6.a) = some (.int .u32 x11) ∧
          ((decide (((IntKind.u64.wrap (x10.t16 + (IntKind.u64.wrap x11))) : Int) ≥ 4294967296)) = true →
            ∃ x12 : L_ref1_NatDiv_1, ((SV.val (.int .i64 (IntKind.i64.wrap ((IntKind.i64.wrap (32 * (p1.len : Int))) - r5))) = SV.val (.int .i64 (IntKind.i64.wrap ((IntKind.i64.wrap (32 * (p1.len : Int))) - r5))) ∧ SV.val (r6.v) = SV.val (r6.v) ∧ SV.osl 57 0 (Int.toNat (IntKind.i64.wrap ((p0.len : Int) + 1))) (Int.toNat (IntKind.i64.wrap ((p0.len : Int) + 1))) = SV.osl 57 0 (Int.toNat (IntKind.i64.wrap ((p0.len : Int) + 1))) (Int.toNat (IntKind.i64.wrap ((p0.len : Int) + 1))) ∧ SV.val (.int .i64 (r6.len : Int)) = SV.val (.int .i64 (r6.len : Int)) ∧ SV.osl 69 0 (Int.toNat (IntKind.i64.wrap (((Int.toNat (IntKind.i64.wrap ((p0.len : Int) + 1)) : Nat) : Int) - (r6.len : Int)))) (Int.toNat (IntKind.i64.wrap (((Int.toNat (IntKind.i64.wrap ((p0.len : Int) + 1)) : Nat) : Int) - (r6.len : Int)))) = SV.osl 69 0 (Int.toNat (IntKind.i64.wrap (((Int.toNat (IntKind.i64.wrap ((p0.len : Int) + 1)) : Nat) : Int) - (r6.len : Int)))) (Int.toNat (IntKind.i64.wrap (((Int.toNat (IntKind.i64.wrap ((p0.len : Int) + 1)) : Nat) : Int) - (r6.len : Int)))) ∧ SV.val (.int .i64 x3.t13) = SV.val (.int .i64 x3.t13) ∧ SV.val (.int .u64 (IntKind.u64.wrap (x10.t15 - 1))) = SV.val (.int .u64 x12.t15) ∧ True) ∧ ((some (⟨142, .dyn x3.o57⟩) : Option OB) = some (⟨142, .dyn x3.o57⟩) ∧ (some (⟨142, .dyn x3.o69⟩) : Option OB) = some (⟨142, .dyn x3.o69⟩) ∧ True)) ∧ I_ref1_NatDiv_1 (C_ref1_NatDiv_1.mk (IntKind.i64.wrap ((IntKind.i64.wrap (32 * (p1.len : Int))) - r5)) r6 (r6.len : Int) (Int.toNat (IntKind.i64.wrap (((Int.toNat (IntKind.i64.wrap ((p0.len : Int) + 1)) : Nat) : Int) - (r6.len : Int)))) (Int.toNat (IntKind.i64.wrap (((Int.toNat (IntKind.i64.wrap ((p0.len : Int) + 1)) : Nat) : Int) - (r6.len : Int)))) x3.t13 x3.o57 x3.o69) x12 V9) ∧
          ((decide (((IntKind.u64.wrap (x10.t16 + (IntKind.u64.wrap x11))) : Int) ≥ 4294967296)) = false →
            ∃ x13 : L_ref1_NatDiv_2, ((SV.val (.int .i64 (IntKind.i64.wrap ((IntKind.i64.wrap (32 * (p1.len : Int))) - r5))) = SV.val (.int .i64 (IntKind.i64.wrap ((IntKind.i64.wrap (32 * (p1.len : Int))) - r5))) ∧ SV.val (r6.v) = SV.val (r6.v) ∧ SV.osl 57 0 (Int.toNat (IntKind.i64.wrap ((p0.len : Int) + 1))) (Int.toNat (IntKind.i64.wrap ((p0.len : Int) + 1))) = SV.osl 57 0 (Int.toNat (IntKind.i64.wrap ((p0.len : Int) + 1))) (Int.toNat (IntKind.i64.wrap ((p0.len : Int) + 1))) ∧ SV.val (.int .i64 (r6.len : Int)) = SV.val (.int .i64 (r6.len : Int)) ∧ SV.osl 69 0 (Int.toNat (IntKind.i64.wrap (((Int.toNat (IntKind.i64.wrap ((p0.len : Int) + 1)) : Nat) : Int) - (r6.len : Int)))) (Int.toNat (IntKind.i64.wrap (((Int.toNat (IntKind.i64.wrap ((p0.len : Int) + 1)) : Nat) : Int) - (r6.len : Int)))) = SV.osl 69 0 (Int.toNat (IntKind.i64.wrap (((Int.toNat (IntKind.i64.wrap ((p0.len : Int) + 1)) : Nat) : Int) - (r6.len : Int)))) (Int.toNat (IntKind.i64.wrap (((Int.toNat (IntKind.i64.wrap ((p0.len : Int) + 1)) : Nat) : Int) - (r6.len : Int)))) ∧ SV.val (.int .i64 x3.t13) = SV.val (.int .i64 x3.t13) ∧ SV.val (.int .u64 (IntKind.u64.wrap (x10.t15 - 1))) = SV.val (.int .u64 x13.t15) ∧ SV.val (.int .u64 (IntKind.u64.wrap (x10.t16 + (IntKind.u64.wrap x11)))) = SV.val (.int .u64 x13.t16) ∧ True) ∧ ((some (⟨142, .dyn x3.o57⟩) : Option OB) = some (⟨142, .dyn x3.o57⟩) ∧ (some (⟨142, .dyn x3.o69⟩) : Option OB) = some (⟨142, .dyn x3.o69⟩) ∧ True)) ∧ I_ref1_NatDiv_2 (C_ref1_NatDiv_2.mk (IntKind.i64.wrap ((IntKind.i64.wrap (32 * (p1.len : Int))) - r5)) r6 (r6.len : Int) (Int.toNat (IntKind.i64.wrap (((Int.toNat (IntKind.i64.wrap ((p0.len : Int) + 1)) : Nat) : Int) - (r6.len : Int)))) (Int.toNat (IntKind.i64.wrap (((Int.toNat (IntKind.i64.wrap ((p0.len : Int) + 1)) : Nat) : Int) - (r6.len : Int)))) x3.t13 x3.o57 x3.o69) x13 V9 ∧ mu_ref1_NatDiv_2 (C_ref1_NatDiv_2.mk (IntKind.i64.wrap ((IntKind.i64.wrap (32 * (p1.len : Int))) - r5)) r6 (r6.len : Int) (Int.toNat (IntKind.i64.wrap (((Int.toNat (IntKind.i64.wrap ((p0.len : Int) + 1)) : Nat) : Int) - (r6.len : Int)))) (Int.toNat (IntKind.i64.wrap (((Int.toNat (IntKind.i64.wrap ((p0.len : Int) + 1)) : Nat) : Int) - (r6.len : Int)))) x3.t13 x3.o57 x3.o69) x13 V9 < mu_ref1_NatDiv_2 (C_ref1_NatDiv_2.mk (IntKind.i64.wrap ((IntKind.i64.wrap (32 * (p1.len : Int))) - r5)) r6 (r6.len : Int) (Int.toNat (IntKind.i64.wrap (((Int.toNat (IntKind.i64.wrap ((p0.len : Int) + 1)) : Nat) : Int) - (r6.len : Int)))) (Int.toNat (IntKind.i64.wrap (((Int.toNat (IntKind.i64.wrap ((p0.len : Int) + 1)) : Nat) : Int) - (r6.len : Int)))) x3.t13 x3.o57 x3.o69) x10 V9)) ∧
          (true = false →
            ∃ x14 : L_ref1_NatDiv_1, ((SV.val (.int .i64 (IntKind.i64.wrap ((IntKind.i64.wrap (32 * (p1.len : Int))) - r5))) = SV.val (.int .i64 (IntKind.i64.wrap ((IntKind.i64.wrap (32 * (p1.len : Int))) - r5))) ∧ SV.val (r6.v) = SV.val (r6.v) ∧ SV.osl 57 0 (Int.toNat (IntKind.i64.wrap ((p0.len : Int) + 1))) (Int.toNat (IntKind.i64.wrap ((p0.len : Int) + 1))) = SV.osl 57 0 (Int.toNat (IntKind.i64.wrap ((p0.len : Int) + 1))) (Int.toNat (IntKind.i64.wrap ((p0.len : Int) + 1))) ∧ SV.val (.int .i64 (r6.len : Int)) = SV.val (.int .i64 (r6.len : Int)) ∧ SV.osl 69 0 (Int.toNat (IntKind.i64.wrap (((Int.toNat (IntKind.i64.wrap ((p0.len : Int) + 1)) : Nat) : Int) - (r6.len : Int)))) (Int.toNat (IntKind.i64.wrap (((Int.toNat (IntKind.i64.wrap ((p0.len : Int) + 1)) : Nat) : Int) - (r6.len : Int)))) = SV.osl 69 0 (Int.toNat (IntKind.i64.wrap (((Int.toNat (IntKind.i64.wrap ((p0.len : Int) + 1)) : Nat) : Int) - (r6.len : Int)))) (Int.toNat (IntKind.i64.wrap (((Int.toNat (IntKind.i64.wrap ((p0.len : Int) + 1)) : Nat) : Int) - (r6.len : Int)))) ∧ SV.val (.int .i64 x3.t13) = SV.val (.int .i64 x3.t13) ∧ SV.val (.int .u64 x10.t15) = SV.val (.int .u64 x14.t15) ∧ True) ∧ ((some (⟨142, .dyn x3.o57⟩) : Option OB) = some (⟨142, .dyn x3.o57⟩) ∧ (some (⟨142, .dyn x3.o69⟩) : Option OB) = some (⟨142, .dyn x3.o69⟩) ∧ True)) ∧ I_ref1_NatDiv_1 (C_ref1_NatDiv_1.mk (IntKind.i64.wrap ((IntKind.i64.wrap (32 * (p1.len : Int))) - r5)) r6 (r6.len : Int) (Int.toNat (IntKind.i64.wrap (((Int.toNat (IntKind.i64.wrap ((p0.len : Int) + 1)) : Nat) : Int) - (r6.len : Int)))) (Int.toNat (IntKind.i64.wrap (((Int.toNat (IntKind.i64.wrap ((p0.len : Int) + 1)) : Nat) : Int) - (r6.len : Int)))) x3.t13 x3.o57 x3.o69) x14 V9)) ∧
          ((decide ((x10.t15 : Int) ≥ 4294967296)) = false →
          ((0 : Int) ≤ (IntKind.i64.wrap ((r6.len : Int) - 2)) ∧ ((IntKind.i64.wrap ((r6.len : Int) - 2)) : Int) < (r6.len : Nat) ∧ Option.isSome r6.a = true) ∧
          ∃ x15 : Int, View.load V9 (Option.map (fun q => Addr.add q (Int.toNat (IntKind.i64.wrap ((r6.len : Int) - 2)) * 1)) r6.a) = some (.int .u32 x15) ∧
          ((0 : Int) ≤ (IntKind.i64.wrap ((IntKind.i64.wrap (x3.t13 + (r6.len : Int))) - 2)) ∧ ((IntKind.i64.wrap ((IntKind.i64.wrap (x3.t13 + (r6.len : Int))) - 2)) : Int) < (Int.toNat (IntKind.i64.wrap ((p0.len : Int) + 1)) : Nat)) ∧
          ∃ x16 : Int, x3.o57[0 + Int.toNat (IntKind.i64.wrap ((IntKind.i64.wrap (x3.t13 + (r6.len : Int))) - 2)) * 1]? = some (.int .u32 x16) ∧
          ((decide (((IntKind.u64.wrap (x10.t15 * (IntKind.u64.wrap x15))) : Int) > (IntKind.u64.wrap (BitVec.toNat ((BitVec.ofInt IntKind.u64.bits (IntKind.u64.wrap (x10.t16 * 2 ^ (min (Int.toNat 32) (IntKind.u64.bits))))) ||| (BitVec.ofInt IntKind.u64.bits (IntKind.u64.wrap x16))))))) = true →
            ((0 : Int) ≤ (IntKind.i64.wrap ((r6.len : Int) - 1)) ∧ ((IntKind.i64.wrap ((r6.len : Int) - 1)) : Int) < (r6.len : Nat) ∧ Option.isSome r6.a = true) ∧
          ∃ x17 : Int, View.load V9 (Option.map (fun q => Addr.add q (Int.toNat (IntKind.i64.wrap ((r6.len : Int) - 1)) * 1)) r6.a) = some (.int .u32 x17) ∧
          ((decide (((IntKind.u64.wrap (x10.t16 + (IntKind.u64.wrap x17))) : Int) ≥ 4294967296)) = true →
            ∃ x18 : L_ref1_NatDiv_1, ((SV.val (.int .i64 (IntKind.i64.wrap ((IntKind.i64.wrap (32 * (p1.len : Int))) - r5))) = SV.val (.int .i64 (IntKind.i64.wrap ((IntKind.i64.wrap (32 * (p1.len : Int))) - r5))) ∧ SV.val (r6.v) = SV.val (r6.v) ∧ SV.osl 57 0 (Int.toNat (IntKind.i64.wrap ((p0.len : Int) + 1))) (Int.toNat (IntKind.i64.wrap ((p0.len : Int) + 1))) = SV.osl 57 0 (Int.toNat (IntKind.i64.wrap ((p0.len : Int) + 1))) (Int.toNat (IntKind.i64.wrap ((p0.len : Int) + 1))) ∧ SV.val (.int .i64 (r6.len : Int)) = SV.val (.int .i64 (r6.len : Int)) ∧ SV.osl 69 0 (Int.toNat (IntKind.i64.wrap (((Int.toNat (IntKind.i64.wrap ((p0.len : Int) + 1)) : Nat) : Int) - (r6.len : Int)))) (Int.toNat (IntKind.i64.wrap (((Int.toNat (IntKind.i64.wrap ((p0.len : Int) + 1)) : Nat) : Int) - (r6.len : Int)))) = SV.osl 69 0 (Int.toNat (IntKind.i64.wrap (((Int.toNat (IntKind.i64.wrap ((p0.len : Int) + 1)) : Nat) : Int) - (r6.len : Int)))) (Int.toNat (IntKind.i64.wrap (((Int.toNat (IntKind.i64.wrap ((p0.len : Int) + 1)) : Nat) : Int) - (r6.len : Int)))) ∧ SV.val (.int .i64 x3.t13) = SV.val (.int .i64 x3.t13) ∧ SV.val (.int .u64 (IntKind.u64.wrap (x10.t15 - 1))) = SV.val (.int .u64 x18.t15) ∧ True) ∧ ((some (⟨142, .dyn x3.o57⟩) : Option OB) = some (⟨142, .dyn x3.o57⟩) ∧ (some (⟨142, .dyn x3.o69⟩) : Option OB) = some (⟨142, .dyn x3.o69⟩) ∧ True)) ∧ I_ref1_NatDiv_1 (C_ref1_NatDiv_1.mk (IntKind.i64.wrap ((IntKind.i64.wrap (32 * (p1.len : Int))) - r5)) r6 (r6.len : Int) (Int.toNat (IntKind.i64.wrap (((Int.toNat (IntKind.i64.wrap ((p0.len : Int) + 1)) : Nat) : Int) - (r6.len : Int)))) (Int.toNat (IntKind.i64.wrap (((Int.toNat (IntKind.i64.wrap ((p0.len : Int) + 1)) : Nat) : Int) - (r6.len : Int)))) x3.t13 x3.o57 x3.o69) x18 V9) ∧
          ((decide (((IntKind.u64.wrap (x10.t16 + (IntKind.u64.wrap x17))) : Int) ≥ 4294967296)) = false →
            ∃ x19 : L_ref1_NatDiv_2, ((SV.val (.int .i64 (IntKind.i64.wrap ((IntKind.i64.wrap (32 * (p1.len : Int))) - r5))) = SV.val (.int .i64 (IntKind.i64.wrap ((IntKind.i64.wrap (32 * (p1.len : Int))) - r5))) ∧ SV.val (r6.v) = SV.val (r6.v) ∧ SV.osl 57 0 (Int.toNat (IntKind.i64.wrap ((p0.len : Int) + 1))) (Int.toNat (IntKind.i64.wrap ((p0.len : Int) + 1))) = SV.osl 57 0 (Int.toNat (IntKind.i64.wrap ((p0.len : Int) + 1))) (Int.toNat (IntKind.i64.wrap ((p0.len : Int) + 1))) ∧ SV.val (.int .i64 (r6.len : Int)) = SV.val (.int .i64 (r6.len : Int)) ∧ SV.osl 69 0 (Int.toNat (IntKind.i64.wrap (((Int.toNat (IntKind.i64.wrap ((p0.len : Int) + 1)) : Nat) : Int) - (r6.len : Int)))) (Int.toNat (IntKind.i64.wrap (((Int.toNat (IntKind.i64.wrap ((p0.len : Int) + 1)) : Nat) : Int) - (r6.len : Int)))) = SV.osl 69 0 (Int.toNat (IntKind.i64.wrap (((Int.toNat (IntKind.i64.wrap ((p0.len : Int) + 1)) : Nat) : Int) - (r6.len : Int)))) (Int.toNat (IntKind.i64.wrap (((Int.toNat (IntKind.i64.wrap ((p0.len : Int) + 1)) : Nat) : Int) - (r6.len : Int)))) ∧ SV.val (.int .i64 x3.t13) = SV.val (.int .i64 x3.t13) ∧ SV.val (.int .u64 (IntKind.u64.wrap (x10.t15 - 1))) = SV.val (.int .u64 x19.t15) ∧ SV.val (.int .u64 (IntKind.u64.wrap (x10.t16 + (IntKind.u64.wrap x17)))) = SV.val (.int .u64 x19.t16) ∧ True) ∧ ((some (⟨142, .dyn x3.o57⟩) : Option OB) = some (⟨142, .dyn x3.o57⟩) ∧ (some (⟨142, .dyn x3.o69⟩) : Option OB) = some (⟨142, .dyn x3.o69⟩) ∧ True)) ∧ I_ref1_NatDiv_2 (C_ref1_NatDiv_2.mk (IntKind.i64.wrap ((IntKind.i64.wrap (32 * (p1.len : Int))) - r5)) r6 (r6.len : Int) (Int.toNat (IntKind.i64.wrap (((Int.toNat (IntKind.i64.wrap ((p0.len : Int) + 1)) : Nat) : Int) - (r6.len : Int)))) (Int.toNat (IntKind.i64.wrap (((Int.toNat (IntKind.i64.wrap ((p0.len : Int) + 1)) : Nat) : Int) - (r6.len : Int)))) x3.t13 x3.o57 x3.o69) x19 V9 ∧ mu_ref1_NatDiv_2 (C_ref1_NatDiv_2.mk (IntKind.i64.wrap ((IntKind.i64.wrap (32 * (p1.len : Int))) - r5)) r6 (r6.len : Int) (Int.toNat (IntKind.i64.wrap (((Int.toNat (IntKind.i64.wrap ((p0.len : Int) + 1)) : Nat) : Int) - (r6.len : Int)))) (Int.toNat (IntKind.i64.wrap (((Int.toNat (IntKind.i64.wrap ((p0.len : Int) + 1)) : Nat) : Int) - (r6.len : Int)))) x3.t13 x3.o57 x3.o69) x19 V9 < mu_ref1_NatDiv_2 (C_ref1_NatDiv_2.mk (IntKind.i64.wrap ((IntKind.i64.wrap (32 * (p1.len : Int))) - r5)) r6 (r6.len : Int) (Int.toNat (IntKind.i64.wrap (((Int.toNat (IntKind.i64.wrap ((p0.len : Int) + 1)) : Nat) : Int) - (r6.len : Int)))) (Int.toNat (IntKind.i64.wrap (((Int.toNat (IntKind.i64.wrap ((p0.len : Int) + 1)) : Nat) : Int) - (r6.len : Int)))) x3.t13 x3.o57 x3.o69) x10 V9)) ∧
          ((decide (((IntKind.u64.wrap (x10.t15 * (IntKind.u64.wrap x15))) : Int) > (IntKind.u64.wrap (BitVec.toNat ((BitVec.ofInt IntKind.u64.bits (IntKind.u64.wrap (x10.t16 * 2 ^ (min (Int.toNat 32) (IntKind.u64.bits))))) ||| (BitVec.ofInt IntKind.u64.bits (IntKind.u64.wrap x16))))))) = false →
            ∃ x20 : L_ref1_NatDiv_1, ((SV.val (.int .i64 (IntKind.i64.wrap ((IntKind.i64.wrap (32 * (p1.len : Int))) - r5))) = SV.val (.int .i64 (IntKind.i64.wrap ((IntKind.i64.wrap (32 * (p1.len : Int))) - r5))) ∧ SV.val (r6.v) = SV.val (r6.v) ∧ SV.osl 57 0 (Int.toNat (IntKind.i64.wrap ((p0.len : Int) + 1))) (Int.toNat (IntKind.i64.wrap ((p0.len : Int) + 1))) = SV.osl 57 0 (Int.toNat (IntKind.i64.wrap ((p0.len : Int) + 1))) (Int.toNat (IntKind.i64.wrap ((p0.len : Int) + 1))) ∧ SV.val (.int .i64 (r6.len : Int)) = SV.val (.int .i64 (r6.len : Int)) ∧ SV.osl 69 0 (Int.toNat (IntKind.i64.wrap (((Int.toNat (IntKind.i64.wrap ((p0.len : Int) + 1)) : Nat) : Int) - (r6.len : Int)))) (Int.toNat (IntKind.i64.wrap (((Int.toNat (IntKind.i64.wrap ((p0.len : Int) + 1)) : Nat) : Int) - (r6.len : Int)))) = SV.osl 69 0 (Int.toNat (IntKind.i64.wrap (((Int.toNat (IntKind.i64.wrap ((p0.len : Int) + 1)) : Nat) : Int) - (r6.len : Int)))) (Int.toNat (IntKind.i64.wrap (((Int.toNat (IntKind.i64.wrap ((p0.len : Int) + 1)) : Nat) : Int) - (r6.len : Int)))) ∧ SV.val (.int .i64 x3.t13) = SV.val (.int .i64 x3.t13) ∧ SV.val (.int .u64 x10.t15) = SV.val (.int .u64 x20.t15) ∧ True) ∧ ((some (⟨142, .dyn x3.o57⟩) : Option OB) = some (⟨142, .dyn x3.o57⟩) ∧ (some (⟨142, .dyn x3.o69⟩) : Option OB) = some (⟨142, .dyn x3.o69⟩) ∧ True)) ∧ I_ref1_NatDiv_1 (C_ref1_NatDiv_1.mk (IntKind.i64.wrap ((IntKind.i64.wrap (32 * (p1.len : Int))) - r5)) r6 (r6.len : Int) (Int.toNat (IntKind.i64.wrap (((Int.toNat (IntKind.i64.wrap ((p0.len : Int) + 1)) : Nat) : Int) - (r6.len : Int)))) (Int.toNat (IntKind.i64.wrap (((Int.toNat (IntKind.i64.wrap ((p0.len : Int) + 1)) : Nat) : Int) - (r6.len : Int)))) x3.t13 x3.o57 x3.o69) x20 V9)))) ∧
      (∀ (x8 : L_ref1_NatDiv_1) (V8 : View), View.le V7 V8 → I_ref1_NatDiv_1 (C_ref1_NatDiv_1.mk (IntKind.i64.wrap ((IntKind.i64.wrap (32 * (p1.len : Int))) - r5)) r6 (r6.len : Int) (Int.toNat (IntKind.i64.wrap (((Int.toNat (IntKind.i64.wrap ((p0.len : Int) + 1)) : Nat) : Int) - (r6.len : Int)))) (Int.toNat (IntKind.i64.wrap (((Int.toNat (IntKind.i64.wrap ((p0.len : Int) + 1)) : Nat) : Int) - (r6.len : Int)))) x3.t13 x3.o57 x3.o69) x8 V8 →
        (∃ x21 : L_ref1_NatDiv_3, ((SV.val (.int .i64 (IntKind.i64.wrap ((IntKind.i64.wrap (32 * (p1.len : Int))) - r5))) = SV.val (.int .i64 (IntKind.i64.wrap ((IntKind.i64.wrap (32 * (p1.len : Int))) - r5))) ∧ SV.val (r6.v) = SV.val (r6.v) ∧ SV.osl 57 0 (Int.toNat (IntKind.i64.wrap ((p0.len : Int) + 1))) (Int.toNat (IntKind.i64.wrap ((p0.len : Int) + 1))) = SV.osl 57 0 (Int.toNat (IntKind.i64.wrap ((p0.len : Int) + 1))) (Int.toNat (IntKind.i64.wrap ((p0.len : Int) + 1))) ∧ SV.val (.int .i64 (r6.len : Int)) = SV.val (.int .i64 (r6.len : Int)) ∧ SV.osl 69 0 (Int.toNat (IntKind.i64.wrap (((Int.toNat (IntKind.i64.wrap ((p0.len : Int) + 1)) : Nat) : Int) - (r6.len : Int)))) (Int.toNat (IntKind.i64.wrap (((Int.toNat (IntKind.i64.wrap ((p0.len : Int) + 1)) : Nat) : Int) - (r6.len : Int)))) = SV.osl 69 0 (Int.toNat (IntKind.i64.wrap (((Int.toNat (IntKind.i64.wrap ((p0.len : Int) + 1)) : Nat) : Int) - (r6.len : Int)))) (Int.toNat (IntKind.i64.wrap (((Int.toNat (IntKind.i64.wrap ((p0.len : Int) + 1)) : Nat) : Int) - (r6.len : Int)))) ∧ SV.val (.int .i64 x3.t13) = SV.val (.int .i64 x3.t13) ∧ SV.val (.int .u64 x8.t15) = SV.val (.int .u64 x8.t15) ∧ SV.val (.int .u64 0) = SV.val (.int .u64 x21.t17) ∧ SV.val (.int .u64 0) = SV.val (.int .u64 x21.t18) ∧ SV.val (.int .i64 0) = SV.val (.int .i64 x21.t19) ∧ True) ∧ ((some (⟨142, .dyn x3.o57⟩) : Option OB) = some (⟨142, .dyn x21.o57⟩) ∧ (some (⟨142, .dyn x3.o69⟩) : Option OB) = some (⟨142, .dyn x21.o69⟩) ∧ True)) ∧ I_ref1_NatDiv_3 (C_ref1_NatDiv_3.mk (IntKind.i64.wrap ((IntKind.i64.wrap (32 * (p1.len : Int))) - r5)) r6 (r6.len : Int) (Int.toNat (IntKind.i64.wrap (((Int.toNat (IntKind.i64.wrap ((p0.len : Int) + 1)) : Nat) : Int) - (r6.len : Int)))) (Int.toNat (IntKind.i64.wrap (((Int.toNat (IntKind.i64.wrap ((p0.len : Int) + 1)) : Nat) : Int) - (r6.len : Int)))) x3.t13 x8.t15) x21 V8) ∧
        (∀ (x22 : L_ref1_NatDiv_3) (V10 : View), View.le V8 V10 → I_ref1_NatDiv_3 (C_ref1_NatDiv_3.mk (IntKind.i64.wrap ((IntKind.i64.wrap (32 * (p1.len : Int))) - r5)) r6 (r6.len : Int) (Int.toNat (IntKind.i64.wrap (((Int.toNat (IntKind.i64.wrap ((p0.len : Int) + 1)) : Nat) : Int) - (r6.len : Int)))) (Int.toNat (IntKind.i64.wrap (((Int.toNat (IntKind.i64.wrap ((p0.len : Int) + 1)) : Nat) : Int) - (r6.len : Int)))) x3.t13 x8.t15) x22 V10 →
          ((decide ((x22.t19 : Int) < (r6.len : Int))) = true →
            ((0 : Int) ≤ x22.t19 ∧ (x22.t19 : Int) < (r6.len : Nat) ∧ Option.isSome r6.a = true) ∧
          ∃ x23 : Int, View.load V10 (Option.map (fun q => Addr.add q (Int.toNat x22.t19 * 1)) r6.a) = some (.int .u32 x23) ∧
          ((0 : Int) ≤ (IntKind.i64.wrap (x22.t19 + x3.t13)) ∧ ((IntKind.i64.wrap (x22.t19 + x3.t13)) : Int) < (Int.toNat (IntKind.i64.wrap ((p0.len : Int) + 1)) : Nat)) ∧
          ∃ x24 : Int, x22.o57[0 + Int.toNat (IntKind.i64.wrap (x22.t19 + x3.t13)) * 1]? = some (.int .u32 x24) ∧
          ((0 : Int) ≤ (IntKind.i64.wrap (x22.t19 + x3.t13)) ∧ ((IntKind.i64.wrap (x22.t19 + x3.t13)) : Int) < (Int.toNat (IntKind.i64.wrap ((p0.len : Int) + 1)) : Nat)) ∧
          0 + Int.toNat (IntKind.i64.wrap (x22.t19 + x3.t13)) * 1 + 1 ≤ List.length x22.o57 ∧
          ∃ x25 : L_ref1_NatDiv_3, ((SV.val (.int .i64 (IntKind.i64.wrap ((IntKind.i64.wrap (32 * (p1.len : Int))) - r5))) = SV.val (.int .i64 (IntKind.i64.wrap ((IntKind.i64.wrap (32 * (p1.len : Int))) - r5))) ∧ SV.val (r6.v) = SV.val (r6.v) ∧ SV.osl 57 0 (Int.toNat (IntKind.i64.wrap ((p0.len : Int) + 1))) (Int.toNat (IntKind.i64.wrap ((p0.len : Int) + 1))) = SV.osl 57 0 (Int.toNat (IntKind.i64.wrap ((p0.len : Int) + 1))) (Int.toNat (IntKind.i64.wrap ((p0.len : Int) + 1))) ∧ SV.val (.int .i64 (r6.len : Int)) = SV.val (.int .i64 (r6.len : Int)) ∧ SV.osl 69 0 (Int.toNat (IntKind.i64.wrap (((Int.toNat (IntKind.i64.wrap ((p0.len : Int) + 1)) : Nat) : Int) - (r6.len : Int)))) (Int.toNat (IntKind.i64.wrap (((Int.toNat (IntKind.i64.wrap ((p0.len : Int) + 1)) : Nat) : Int) - (r6.len : Int)))) = SV.osl 69 0 (Int.toNat (IntKind.i64.wrap (((Int.toNat (IntKind.i64.wrap ((p0.len : Int) + 1)) : Nat) : Int) - (r6.len : Int)))) (Int.toNat (IntKind.i64.wrap (((Int.toNat (IntKind.i64.wrap ((p0.len : Int) + 1)) : Nat) : Int) - (r6.len : Int)))) ∧ SV.val (.int .i64 x3.t13) = SV.val (.int .i64 x3.t13) ∧ SV.val (.int .u64 x8.t15) = SV.val (.int .u64 x8.t15) ∧ SV.val (.int .u64 (Int.fdiv (IntKind.u64.wrap ((IntKind.u64.wrap ((IntKind.u64.wrap x24) - (IntKind.u64.wrap (BitVec.toNat ((BitVec.ofInt IntKind.u64.bits (IntKind.u64.wrap ((IntKind.u64.wrap (x8.t15 * (IntKind.u64.wrap x23))) + x22.t18))) &&& (BitVec.ofInt IntKind.u64.bits 4294967295)))))) - x22.t17)) (2 ^ (min (Int.toNat 63) (IntKind.u64.bits))))) = SV.val (.int .u64 x25.t17) ∧ SV.val (.int .u64 (Int.fdiv (IntKind.u64.wrap ((IntKind.u64.wrap (x8.t15 * (IntKind.u64.wrap x23))) + x22.t18)) (2 ^ (min (Int.toNat 32) (IntKind.u64.bits))))) = SV.val (.int .u64 x25.t18) ∧ SV.val (.int .i64 (IntKind.i64.wrap (x22.t19 + 1))) = SV.val (.int .i64 x25.t19) ∧ True) ∧ ((some (⟨142, .dyn (List.set x22.o57 (0 + Int.toNat (IntKind.i64.wrap (x22.t19 + x3.t13)) * 1) (.int .u32 (IntKind.u32.wrap (IntKind.u64.wrap ((IntKind.u64.wrap ((IntKind.u64.wrap x24) - (IntKind.u64.wrap (BitVec.toNat ((BitVec.ofInt IntKind.u64.bits (IntKind.u64.wrap ((IntKind.u64.wrap (x8.t15 * (IntKind.u64.wrap x23))) + x22.t18))) &&& (BitVec.ofInt IntKind.u64.bits 4294967295)))))) - x22.t17)))))⟩) : Option OB) = some (⟨142, .dyn x25.o57⟩) ∧ (some (⟨142, .dyn x22.o69⟩) : Option OB) = some (⟨142, .dyn x25.o69⟩) ∧ True)) ∧ I_ref1_NatDiv_3 (C_ref1_NatDiv_3.mk (IntKind.i64.wrap ((IntKind.i64.wrap (32 * (p1.len : Int))) - r5)) r6 (r6.len : Int) (Int.toNat (IntKind.i64.wrap (((Int.toNat (IntKind.i64.wrap ((p0.len : Int) + 1)) : Nat) : Int) - (r6.len : Int)))) (Int.toNat (IntKind.i64.wrap (((Int.toNat (IntKind.i64.wrap ((p0.len : Int) + 1)) : Nat) : Int) - (r6.len : Int)))) x3.t13 x8.t15) x25 V10 ∧ mu_ref1_NatDiv_3 (C_ref1_NatDiv_3.mk (IntKind.i64.wrap ((IntKind.i64.wrap (32 * (p1.len : Int))) - r5)) r6 (r6.len : Int) (Int.toNat (IntKind.i64.wrap (((Int.toNat (IntKind.i64.wrap ((p0.len : Int) + 1)) : Nat) : Int) - (r6.len : Int)))) (Int.toNat (IntKind.i64.wrap (((Int.toNat (IntKind.i64.wrap ((p0.len : Int) + 1)) : Nat) : Int) - (r6.len : Int)))) x3.t13 x8.t15) x25 V10 < mu_ref1_NatDiv_3 (C_ref1_NatDiv_3.mk (IntKind.i64.wrap ((IntKind.i64.wrap (32 * (p1.len : Int))) - r5)) r6 (r6.len : Int) (Int.toNat (IntKind.i64.wrap (((Int.toNat (IntKind.i64.wrap ((p0.len : Int) + 1)) : Nat) : Int) - (r6.len : Int)))) (Int.toNat (IntKind.i64.wrap (((Int.toNat (IntKind.i64.wrap ((p0.len : Int) + 1)) : Nat) : Int) - (r6.len : Int)))) x3.t13 x8.t15) x22 V10) ∧
          ((decide ((x22.t19 : Int) < (r6.len : Int))) = false →
            ((0 : Int) ≤ (IntKind.i64.wrap (x3.t13 + (r6.len : Int))) ∧ ((IntKind.i64.wrap (x3.t13 + (r6.len : Int))) : Int) < (Int.toNat (IntKind.i64.wrap ((p0.len : Int) + 1)) : Nat)) ∧
        ∃ x26 : Int, x22.o57[0 + Int.toNat (IntKind.i64.wrap (x3.t13 + (r6.len : Int))) * 1]? = some (.int .u32 x26) ∧
        ((0 : Int) ≤ (IntKind.i64.wrap (x3.t13 + (r6.len : Int))) ∧ ((IntKind.i64.wrap (x3.t13 + (r6.len : Int))) : Int) < (Int.toNat (IntKind.i64.wrap ((p0.len : Int) + 1)) : Nat)) ∧
        0 + Int.toNat (IntKind.i64.wrap (x3.t13 + (r6.len : Int))) * 1 + 1 ≤ List.length x22.o57 ∧
        ((((Int.fdiv (IntKind.u64.wrap ((IntKind.u64.wrap ((IntKind.u64.wrap x26) - x22.t18)) - x22.t17)) (2 ^ (min (Int.toNat 63) (IntKind.u64.bits)))) : Int) == 1) = true →
          (∃ x27 : L_ref1_NatDiv_4, ((SV.val (.int .i64 (IntKind.i64.wrap ((IntKind.i64.wrap (32 * (p1.len : Int))) - r5))) = SV.val (.int .i64 (IntKind.i64.wrap ((IntKind.i64.wrap (32 * (p1.len : Int))) - r5))) ∧ SV.val (r6.v) = SV.val (r6.v) ∧ SV.osl 57 0 (Int.toNat (IntKind.i64.wrap ((p0.len : Int) + 1))) (Int.toNat (IntKind.i64.wrap ((p0.len : Int) + 1))) = SV.osl 57 0 (Int.toNat (IntKind.i64.wrap ((p0.len : Int) + 1))) (Int.toNat (IntKind.i64.wrap ((p0.len : Int) + 1))) ∧ SV.val (.int .i64 (r6.len : Int)) = SV.val (.int .i64 (r6.len : Int)) ∧ SV.osl 69 0 (Int.toNat (IntKind.i64.wrap (((Int.toNat (IntKind.i64.wrap ((p0.len : Int) + 1)) : Nat) : Int) - (r6.len : Int)))) (Int.toNat (IntKind.i64.wrap (((Int.toNat (IntKind.i64.wrap ((p0.len : Int) + 1)) : Nat) : Int) - (r6.len : Int)))) = SV.osl 69 0 (Int.toNat (IntKind.i64.wrap (((Int.toNat (IntKind.i64.wrap ((p0.len : Int) + 1)) : Nat) : Int) - (r6.len : Int)))) (Int.toNat (IntKind.i64.wrap (((Int.toNat (IntKind.i64.wrap ((p0.len : Int) + 1)) : Nat) : Int) - (r6.len : Int)))) ∧ SV.val (.int .i64 x3.t13) = SV.val (.int .i64 x3.t13) ∧ SV.val (.int .u64 (IntKind.u64.wrap (x8.t15 - 1))) = SV.val (.int .u64 (IntKind.u64.wrap (x8.t15 - 1))) ∧ SV.val (.int .u64 0) = SV.val (.int .u64 x27.t18) ∧ SV.val (.int .i64 0) = SV.val (.int .i64 x27.t23) ∧ True) ∧ ((some (⟨142, .dyn (List.set x22.o57 (0 + Int.toNat (IntKind.i64.wrap (x3.t13 + (r6.len : Int))) * 1) (.int .u32 (IntKind.u32.wrap (IntKind.u64.wrap ((IntKind.u64.wrap ((IntKind.u64.wrap x26) - x22.t18)) - x22.t17)))))⟩) : Option OB) = some (⟨142, .dyn x27.o57⟩) ∧ (some (⟨142, .dyn x22.o69⟩) : Option OB) = some (⟨142, .dyn x27.o69⟩) ∧ True)) ∧ I_ref1_NatDiv_4 (C_ref1_NatDiv_4.mk (IntKind.i64.wrap ((IntKind.i64.wrap (32 * (p1.len : Int))) - r5)) r6 (r6.len : Int) (Int.toNat (IntKind.i64.wrap (((Int.toNat (IntKind.i64.wrap ((p0.len : Int) + 1)) : Nat) : Int) - (r6.len : Int)))) (Int.toNat (IntKind.i64.wrap (((Int.toNat (IntKind.i64.wrap ((p0.len : Int) + 1)) : Nat) : Int) - (r6.len : Int)))) x3.t13 (IntKind.u64.wrap (x8.t15 - 1))) x27 V10) ∧
          (∀ (x28 : L_ref1_NatDiv_4) (V11 : View), View.le V10 V11 → I_ref1_NatDiv_4 (C_ref1_NatDiv_4.mk (IntKind.i64.wrap ((IntKind.i64.wrap (32 * (p1.len : Int))) - r5)) r6 (r6.len : Int) (Int.toNat (IntKind.i64.wrap (((Int.toNat (IntKind.i64.wrap ((p0.len : Int) + 1)) : Nat) : Int) - (r6.len : Int)))) (Int.toNat (IntKind.i64.wrap (((Int.toNat (IntKind.i64.wrap ((p0.len : Int) + 1)) : Nat) : Int) - (r6.len : Int)))) x3.t13 (IntKind.u64.wrap (x8.t15 - 1))) x28 V11 →
            ((decide ((x28.t23 : Int) < (r6.len : Int))) = true →
              ((0 : Int) ≤ (IntKind.i64.wrap (x28.t23 + x3.t13)) ∧ ((IntKind.i64.wrap (x28.t23 + x3.t13)) : Int) < (Int.toNat (IntKind.i64.wrap ((p0.len : Int) + 1)) : Nat)) ∧
            ∃ x29 : Int, x28.o57[0 + Int.toNat (IntKind.i64.wrap (x28.t23 + x3.t13)) * 1]? = some (.int .u32 x29) ∧
            ((0 : Int) ≤ x28.t23 ∧ (x28.t23 : Int) < (r6.len : Nat) ∧ Option.isSome r6.a = true) ∧
            ∃ x30 : Int, View.load V11 (Option.map (fun q => Addr.add q (Int.toNat x28.t23 * 1)) r6.a) = some (.int .u32 x30) ∧
            ((0 : Int) ≤ (IntKind.i64.wrap (x28.t23 + x3.t13)) ∧ ((IntKind.i64.wrap (x28.t23 + x3.t13)) : Int) < (Int.toNat (IntKind.i64.wrap ((p0.len : Int) + 1)) : Nat)) ∧
            0 + Int.toNat (IntKind.i64.wrap (x28.t23 + x3.t13)) * 1 + 1 ≤ List.length x28.o57 ∧
            ∃ x31 : L_ref1_NatDiv_4, ((SV.val (.int .i64 (IntKind.i64.wrap ((IntKind.i64.wrap (32 * (p1.len : Int))) - r5))) = SV.val (.int .i64 (IntKind.i64.wrap ((IntKind.i64.wrap (32 * (p1.len : Int))) - r5))) ∧ SV.val (r6.v) = SV.val (r6.v) ∧ SV.osl 57 0 (Int.toNat (IntKind.i64.wrap ((p0.len : Int) + 1))) (Int.toNat (IntKind.i64.wrap ((p0.len : Int) + 1))) = SV.osl 57 0 (Int.toNat (IntKind.i64.wrap ((p0.len : Int) + 1))) (Int.toNat (IntKind.i64.wrap ((p0.len : Int) + 1))) ∧ SV.val (.int .i64 (r6.len : Int)) = SV.val (.int .i64 (r6.len : Int)) ∧ SV.osl 69 0 (Int.toNat (IntKind.i64.wrap (((Int.toNat (IntKind.i64.wrap ((p0.len : Int) + 1)) : Nat) : Int) - (r6.len : Int)))) (Int.toNat (IntKind.i64.wrap (((Int.toNat (IntKind.i64.wrap ((p0.len : Int) + 1)) : Nat) : Int) - (r6.len : Int)))) = SV.osl 69 0 (Int.toNat (IntKind.i64.wrap (((Int.toNat (IntKind.i64.wrap ((p0.len : Int) + 1)) : Nat) : Int) - (r6.len : Int)))) (Int.toNat (IntKind.i64.wrap (((Int.toNat (IntKind.i64.wrap ((p0.len : Int) + 1)) : Nat) : Int) - (r6.len : Int)))) ∧ SV.val (.int .i64 x3.t13) = SV.val (.int .i64 x3.t13) ∧ SV.val (.int .u64 (IntKind.u64.wrap (x8.t15 - 1))) = SV.val (.int .u64 (IntKind.u64.wrap (x8.t15 - 1))) ∧ SV.val (.int .u64 (Int.fdiv (IntKind.u64.wrap ((IntKind.u64.wrap ((IntKind.u64.wrap x29) + (IntKind.u64.wrap x30))) + x28.t18)) (2 ^ (min (Int.toNat 32) (IntKind.u64.bits))))) = SV.val (.int .u64 x31.t18) ∧ SV.val (.int .i64 (IntKind.i64.wrap (x28.t23 + 1))) = SV.val (.int .i64 x31.t23) ∧ True) ∧ ((some (⟨142, .dyn (List.set x28.o57 (0 + Int.toNat (IntKind.i64.wrap (x28.t23 + x3.t13)) * 1) (.int .u32 (IntKind.u32.wrap (IntKind.u64.wrap ((IntKind.u64.wrap ((IntKind.u64.wrap x29) + (IntKind.u64.wrap x30))) + x28.t18)))))⟩) : Option OB) = some (⟨142, .dyn x31.o57⟩) ∧ (some (⟨142, .dyn x28.o69⟩) : Option OB) = some (⟨142, .dyn x31.o69⟩) ∧ True)) ∧ I_ref1_NatDiv_4 (C_ref1_NatDiv_4.mk (IntKind.i64.wrap ((IntKind.i64.wrap (32 * (p1.len : Int))) - r5)) r6 (r6.len : Int) (Int.toNat (IntKind.i64.wrap (((Int.toNat (IntKind.i64.wrap ((p0.len : Int) + 1)) : Nat) : Int) - (r6.len : Int)))) (Int.toNat (IntKind.i64.wrap (((Int.toNat (IntKind.i64.wrap ((p0.len : Int) + 1)) : Nat) : Int) - (r6.len : Int)))) x3.t13 (IntKind.u64.wrap (x8.t15 - 1))) x31 V11 ∧ mu_ref1_NatDiv_4 (C_ref1_NatDiv_4.mk (IntKind.i64.wrap ((IntKind.i64.wrap (32 * (p1.len : Int))) - r5)) r6 (r6.len : Int) (Int.toNat (IntKind.i64.wrap (((Int.toNat (IntKind.i64.wrap ((p0.len : Int) + 1)) : Nat) : Int) - (r6.len : Int)))) (Int.toNat (IntKind.i64.wrap (((Int.toNat (IntKind.i64.wrap ((p0.len : Int) + 1)) : Nat) : Int) - (r6.len : Int)))) x3.t13 (IntKind.u64.wrap (x8.t15 - 1))) x31 V11 < mu_ref1_NatDiv_4 (C_ref1_NatDiv_4.mk (IntKind.i64.wrap ((IntKind.i64.wrap (32 * (p1.len : Int))) - r5)) r6 (r6.len : Int) (Int.toNat (IntKind.i64.wrap (((Int.toNat (IntKind.i64.wrap ((p0.len : Int) + 1)) : Nat) : Int) - (r6.len : Int)))) (Int.toNat (IntKind.i64.wrap (((Int.toNat (IntKind.i64.wrap ((p0.len : Int) + 1)) : Nat) : Int) - (r6.len : Int)))) x3.t13 (IntKind.u64.wrap (x8.t15 - 1))) x28 V11) ∧
            ((decide ((x28.t23 : Int) < (r6.len : Int))) = false →
              ((0 : Int) ≤ (IntKind.i64.wrap (x3.t13 + (r6.len : Int))) ∧ ((IntKind.i64.wrap (x3.t13 + (r6.len : Int))) : Int) < (Int.toNat (IntKind.i64.wrap ((p0.len : Int) + 1)) : Nat)) ∧
          ∃ x32 : Int, x28.o57[0 + Int.toNat (IntKind.i64.wrap (x3.t13 + (r6.len : Int))) * 1]? = some (.int .u32 x32) ∧
          ((0 : Int) ≤ (IntKind.i64.wrap (x3.t13 + (r6.len : Int))) ∧ ((IntKind.i64.wrap (x3.t13 + (r6.len : Int))) : Int) < (Int.toNat (IntKind.i64.wrap ((p0.len : Int) + 1)) : Nat)) ∧
          0 + Int.toNat (IntKind.i64.wrap (x3.t13 + (r6.len : Int))) * 1 + 1 ≤ List.length x28.o57 ∧
          ((0 : Int) ≤ x3.t13 ∧ (x3.t13 : Int) < (Int.toNat (IntKind.i64.wrap (((Int.toNat (IntKind.i64.wrap ((p0.len : Int) + 1)) : Nat) : Int) - (r6.len : Int))) : Nat)) ∧
        0 + Int.toNat x3.t13 * 1 + 1 ≤ List.length x28.o69 ∧
        ∃ x33 : L_ref1_NatDiv_0, ((SV.val (.int .i64 (IntKind.i64.wrap ((IntKind.i64.wrap (32 * (p1.len : Int))) - r5))) = SV.val (.int .i64 (IntKind.i64.wrap ((IntKind.i64.wrap (32 * (p1.len : Int))) - r5))) ∧ SV.val (r6.v) = SV.val (r6.v) ∧ SV.osl 57 0 (Int.toNat (IntKind.i64.wrap ((p0.len : Int) + 1))) (Int.toNat (IntKind.i64.wrap ((p0.len : Int) + 1))) = SV.osl 57 0 (Int.toNat (IntKind.i64.wrap ((p0.len : Int) + 1))) (Int.toNat (IntKind.i64.wrap ((p0.len : Int) + 1))) ∧ SV.val (.int .i64 (r6.len : Int)) = SV.val (.int .i64 (r6.len : Int)) ∧ SV.osl 69 0 (Int.toNat (IntKind.i64.wrap (((Int.toNat (IntKind.i64.wrap ((p0.len : Int) + 1)) : Nat) : Int) - (r6.len : Int)))) (Int.toNat (IntKind.i64.wrap (((Int.toNat (IntKind.i64.wrap ((p0.len : Int) + 1)) : Nat) : Int) - (r6.len : Int)))) = SV.osl 69 0 (Int.toNat (IntKind.i64.wrap (((Int.toNat (IntKind.i64.wrap ((p0.len : Int) + 1)) : Nat) : Int) - (r6.len : Int)))) (Int.toNat (IntKind.i64.wrap (((Int.toNat (IntKind.i64.wrap ((p0.len : Int) + 1)) : Nat) : Int) - (r6.len : Int)))) ∧ SV.val (.int .i64 (IntKind.i64.wrap (x3.t13 - 1))) = SV.val (.int .i64 x33.t13) ∧ True) ∧ ((some (⟨142, .dyn (List.set x28.o57 (0 + Int.toNat (IntKind.i64.wrap (x3.t13 + (r6.len : Int))) * 1) (.int .u32 (IntKind.u32.wrap (x32 + (IntKind.u32.wrap x28.t18)))))⟩) : Option OB) = some (⟨142, .dyn x33.o57⟩) ∧ (some (⟨142, .dyn (List.set x28.o69 (0 + Int.toNat x3.t13 * 1) (.int .u32 (IntKind.u32.wrap (IntKind.u64.wrap (x8.t15 - 1)))))⟩) : Option OB) = some (⟨142, .dyn x33.o69⟩) ∧ True)) ∧ I_ref1_NatDiv_0 (C_ref1_NatDiv_0.mk (IntKind.i64.wrap ((IntKind.i64.wrap (32 * (p1.len : Int))) - r5)) r6 (r6.len : Int) (Int.toNat (IntKind.i64.wrap (((Int.toNat (IntKind.i64.wrap ((p0.len : Int) + 1)) : Nat) : Int) - (r6.len : Int)))) (Int.toNat (IntKind.i64.wrap (((Int.toNat (IntKind.i64.wrap ((p0.len : Int) + 1)) : Nat) : Int) - (r6.len : Int))))) x33 V11 ∧ mu_ref1_NatDiv_0 (C_ref1_NatDiv_0.mk (IntKind.i64.wrap ((IntKind.i64.wrap (32 * (p1.len : Int))) - r5)) r6 (r6.len : Int) (Int.toNat (IntKind.i64.wrap (((Int.toNat (IntKind.i64.wrap ((p0.len : Int) + 1)) : Nat) : Int) - (r6.len : Int)))) (Int.toNat (IntKind.i64.wrap (((Int.toNat (IntKind.i64.wrap ((p0.len : Int) + 1)) : Nat) : Int) - (r6.len : Int))))) x33 V11 < mu_ref1_NatDiv_0 (C_ref1_NatDiv_0.mk (IntKind.i64.wrap ((IntKind.i64.wrap (32 * (p1.len : Int))) - r5)) r6 (r6.len : Int) (Int.toNat (IntKind.i64.wrap (((Int.toNat (IntKind.i64.wrap ((p0.len : Int) + 1)) : Nat) : Int) - (r6.len : Int)))) (Int.toNat (IntKind.i64.wrap (((Int.toNat (IntKind.i64.wrap ((p0.len : Int) + 1)) : Nat) : Int) - (r6.len : Int))))) x3 V7))) ∧
        ((((Int.fdiv (IntKind.u64.wrap ((IntKind.u64.wrap ((IntKind.u64.wrap x26) - x22.t18)) - x22.t17)) (2 ^ (min (Int.toNat 63) (IntKind.u64.bits)))) : Int) == 1) = false →
          ((0 : Int) ≤ x3.t13 ∧ (x3.t13 : Int) < (Int.toNat (IntKind.i64.wrap (((Int.toNat (IntKind.i64.wrap ((p0.len : Int) + 1)) : Nat) : Int) - (r6.len : Int))) : Nat)) ∧
        0 + Int.toNat x3.t13 * 1 + 1 ≤ List.length x22.o69 ∧
        ∃ x34 : L_ref1_NatDiv_0, ((SV.val (.int .i64 (IntKind.i64.wrap ((IntKind.i64.wrap (32 * (p1.len : Int))) - r5))) = SV.val (.int .i64 (IntKind.i64.wrap ((IntKind.i64.wrap (32 * (p1.len : Int))) - r5))) ∧ SV.val (r6.v) = SV.val (r6.v) ∧ SV.osl 57 0 (Int.toNat (IntKind.i64.wrap ((p0.len : Int) + 1))) (Int.toNat (IntKind.i64.wrap ((p0.len : Int) + 1))) = SV.osl 57 0 (Int.toNat (IntKind.i64.wrap ((p0.len : Int) + 1))) (Int.toNat (IntKind.i64.wrap ((p0.len : Int) + 1))) ∧ SV.val (.int .i64 (r6.len : Int)) = SV.val (.int .i64 (r6.len : Int)) ∧ SV.osl 69 0 (Int.toNat (IntKind.i64.wrap (((Int.toNat (IntKind.i64.wrap ((p0.len : Int) + 1)) : Nat) : Int) - (r6.len : Int)))) (Int.toNat (IntKind.i64.wrap (((Int.toNat (IntKind.i64.wrap ((p0.len : Int) + 1)) : Nat) : Int) - (r6.len : Int)))) = SV.osl 69 0 (Int.toNat (IntKind.i64.wrap (((Int.toNat (IntKind.i64.wrap ((p0.len : Int) + 1)) : Nat) : Int) - (r6.len : Int)))) (Int.toNat (IntKind.i64.wrap (((Int.toNat (IntKind.i64.wrap ((p0.len : Int) + 1)) : Nat) : Int) - (r6.len : Int)))) ∧ SV.val (.int .i64 (IntKind.i64.wrap (x3.t13 - 1))) = SV.val (.int .i64 x34.t13) ∧ True) ∧ ((some (⟨142, .dyn (List.set x22.o57 (0 + Int.toNat (IntKind.i64.wrap (x3.t13 + (r6.len : Int))) * 1) (.int .u32 (IntKind.u32.wrap (IntKind.u64.wrap ((IntKind.u64.wrap ((IntKind.u64.wrap x26) - x22.t18)) - x22.t17)))))⟩) : Option OB) = some (⟨142, .dyn x34.o57⟩) ∧ (some (⟨142, .dyn (List.set x22.o69 (0 + Int.toNat x3.t13 * 1) (.int .u32 (IntKind.u32.wrap x8.t15)))⟩) : Option OB) = some (⟨142, .dyn x34.o69⟩) ∧ True)) ∧ I_ref1_NatDiv_0 (C_ref1_NatDiv_0.mk (IntKind.i64.wrap ((IntKind.i64.wrap (32 * (p1.len : Int))) - r5)) r6 (r6.len : Int) (Int.toNat (IntKind.i64.wrap (((Int.toNat (IntKind.i64.wrap ((p0.len : Int) + 1)) : Nat) : Int) - (r6.len : Int)))) (Int.toNat (IntKind.i64.wrap (((Int.toNat (IntKind.i64.wrap ((p0.len : Int) + 1)) : Nat) : Int) - (r6.len : Int))))) x34 V10 ∧ mu_ref1_NatDiv_0 (C_ref1_NatDiv_0.mk (IntKind.i64.wrap ((IntKind.i64.wrap (32 * (p1.len : Int))) - r5)) r6 (r6.len : Int) (Int.toNat (IntKind.i64.wrap (((Int.toNat (IntKind.i64.wrap ((p0.len : Int) + 1)) : Nat) : Int) - (r6.len : Int)))) (Int.toNat (IntKind.i64.wrap (((Int.toNat (IntKind.i64.wrap ((p0.len : Int) + 1)) : Nat) : Int) - (r6.len : Int))))) x34 V10 < mu_ref1_NatDiv_0 (C_ref1_NatDiv_0.mk (IntKind.i64.wrap ((IntKind.i64.wrap (32 * (p1.len : Int))) - r5)) r6 (r6.len : Int) (Int.toNat (IntKind.i64.wrap (((Int.toNat (IntKind.i64.wrap ((p0.len : Int) + 1)) : Nat) : Int) - (r6.len : Int)))) (Int.toNat (IntKind.i64.wrap (((Int.toNat (IntKind.i64.wrap ((p0.len : Int) + 1)) : Nat) : Int) - (r6.len : Int))))) x3 V7))))) ∧
      ((decide ((x3.t13 : Int) ≥ 0)) = false →
        ∀ (b1 : Nat) (V12 : View), View.le V7 V12 → V12 b1 = some (List.toArray x3.o69) →
    ∀ (b2 : Nat) (V13 : View), View.le V12 V13 → V13 b2 = some (List.toArray x3.o57) →
    ((0 : Int) ≤ 0 ∧ (0 : Int) ≤ (r6.len : Int) ∧ ((r6.len : Int) : Int) ≤ ((Int.toNat (IntKind.i64.wrap ((p0.len : Int) + 1))) : Nat)) ∧
    CallV Try.prog 142 #[(Sl.mk (some (Addr.mk b1 0 none)) (Int.toNat (IntKind.i64.wrap (((Int.toNat (IntKind.i64.wrap ((p0.len : Int) + 1)) : Nat) : Int) - (r6.len : Int)))) (Int.toNat (IntKind.i64.wrap (((Int.toNat (IntKind.i64.wrap ((p0.len : Int) + 1)) : Nat) : Int) - (r6.len : Int))))).v] V13 fun v V14 => ∃ r8 : Sl, v = r8.v ∧ -- waveportref01.trim
    CallV Try.prog 142 #[(Sl.mk (if (Int.toNat (IntKind.i64.wrap ((p0.len : Int) + 1))) = Int.toNat 0 then (some (Addr.mk b2 0 none)) else Option.map (fun q => Addr.add q (Int.toNat 0 * 1)) (some (Addr.mk b2 0 none))) (Int.toNat (r6.len : Int) - Int.toNat 0) ((Int.toNat (IntKind.i64.wrap ((p0.len : Int) + 1))) - Int.toNat 0)).v] V14 fun v V15 => ∃ r9 : Sl, v = r9.v ∧ -- waveportref01.trim
    CallV Try.prog 166 #[r9.v, .int .i64 (IntKind.i64.wrap ((IntKind.i64.wrap (32 * (p1.len : Int))) - r5))] V15 fun v V16 => ∃ r10 : Sl, v = r10.v ∧ -- waveportref01.NatShr
    R (.tuple #[r8.v, r10.v]) V16)))) from (CallV.mono h (fun _ _ _ ⟨r1, h79, h78⟩ => ⟨r1, h79, ⟨fun h77 => (h78.1 h77), fun h77 => ⟨fun h76 => ⟨((h78.2 h77).1 h76).1, (match ((h78.2 h77).1 h76).2 with | ⟨x1, h6, h5⟩ => ⟨x1, h6, (CallV.mono h5 (fun _ _ _ ⟨r2, r3, h4, h3⟩ => ⟨r2, r3, h4, (CallV.mono h3 (fun _ _ _ ⟨r4, h2, h1⟩ => ⟨r4, h2, h1⟩))⟩))⟩)⟩, fun h76 => (CallV.mono ((h78.2 h77).2 h76) (fun _ _ _ ⟨r5, h75, h74⟩ => ⟨r5, h75, (CallV.mono h74 (fun _ _ _ ⟨r6, h73, h72⟩ => ⟨r6, h73, ⟨h72.1, (CallV.mono h72.2 (fun _ _ _ ⟨r7, h71, h70⟩ => ⟨r7, h71, (match h70 with | ⟨l1, h65, h66, h67, h68, h69, h64⟩ => ⟨l1, h65, h66, h67, h68, h69, ⟨h64.1, ⟨⟨(L_ref1_NatDiv_0.mk (IntKind.i64.wrap (((Int.toNat (IntKind.i64.wrap (((Int.toNat (IntKind.i64.wrap ((p0.len : Int) + 1)) : Nat) : Int) - (r6.len : Int))) : Nat) : Int) - 1)) (setL ((List.replicate (Int.toNat (IntKind.i64.wrap ((p0.len : Int) + 1))) [Value.int .u32 0]).flatten) 0 l1) ((List.replicate (Int.toNat (IntKind.i64.wrap (((Int.toNat (IntKind.i64.wrap ((p0.len : Int) + 1)) : Nat) : Int) - (r6.len : Int)))) [Value.int .u32 0]).flatten)), ⟨⟨rfl, rfl, rfl, rfl, rfl, rfl, trivial⟩, ⟨rfl, rfl, trivial⟩⟩, h64.2.1⟩, fun x3 V7 h62 h63 => ⟨fun h61 => ⟨((h64.2.2 x3 V7 h62 h63).1 h61).1, (match ((h64.2.2 x3 V7 h62 h63).1 h61).2 with | ⟨x4, h50, h49⟩ => ⟨x4, h50, ⟨h49.1, (match h49.2 with | ⟨x5, h48, h47⟩ => ⟨x5, h48, ⟨h47.1, (match h47.2 with | ⟨x6, h46, h45⟩ => ⟨x6, h46, ⟨h45.1, ⟨h45.2.1, (match h45.2.2 with | ⟨x7, h44, h43⟩ => ⟨x7, h44, ⟨h43.1, ⟨⟨⟨(L_ref1_NatDiv_2.mk (IntKind.u64.wrap (Int.tdiv (IntKind.u64.wrap (BitVec.toNat ((BitVec.ofInt IntKind.u64.bits (IntKind.u64.wrap ((IntKind.u64.wrap x4) * 2 ^ (min (Int.toNat 32) (IntKind.u64.bits))))) ||| (BitVec.ofInt IntKind.u64.bits (IntKind.u64.wrap x5))))) (IntKind.u64.wrap x6))) (Int.tmod (IntKind.u64.wrap (BitVec.toNat ((BitVec.ofInt IntKind.u64.bits (IntKind.u64.wrap ((IntKind.u64.wrap x4) * 2 ^ (min (Int.toNat 32) (IntKind.u64.bits))))) ||| (BitVec.ofInt IntKind.u64.bits (IntKind.u64.wrap x5))))) (IntKind.u64.wrap x7))), ⟨⟨rfl, rfl, rfl, rfl, rfl, rfl, rfl, rfl, trivial⟩, ⟨rfl, rfl, trivial⟩⟩, h43.2.1.1⟩, fun x10 V9 h20 h21 => ⟨fun h19 => ⟨fun h10 => ⟨(((h43.2.1.2 x10 V9 h20 h21).1 h19).1 h10).1, (match (((h43.2.1.2 x10 V9 h20 h21).1 h19).1 h10).2 with | ⟨x11, h9, h8⟩ => ⟨x11, h9, ⟨fun h7 => ⟨(L_ref1_NatDiv_1.mk (IntKind.u64.wrap (x10.t15 - 1))), ⟨⟨rfl, rfl, rfl, rfl, rfl, rfl, rfl, trivial⟩, ⟨rfl, rfl, trivial⟩⟩, (h8.1 h7)⟩, fun h7 => ⟨(L_ref1_NatDiv_2.mk (IntKind.u64.wrap (x10.t15 - 1)) (IntKind.u64.wrap (x10.t16 + (IntKind.u64.wrap x11)))), ⟨⟨rfl, rfl, rfl, rfl, rfl, rfl, rfl, rfl, trivial⟩, ⟨rfl, rfl, trivial⟩⟩, (h8.2 h7).1, (h8.2 h7).2⟩⟩⟩)⟩, fun h10 => ⟨(L_ref1_NatDiv_1.mk x10.t15), ⟨⟨rfl, rfl, rfl, rfl, rfl, rfl, rfl, trivial⟩, ⟨rfl, rfl, trivial⟩⟩, (((h43.2.1.2 x10 V9 h20 h21).1 h19).2 h10)⟩⟩, fun h19 => ⟨((h43.2.1.2 x10 V9 h20 h21).2 h19).1, (match ((h43.2.1.2 x10 V9 h20 h21).2 h19).2 with | ⟨x15, h18, h17⟩ => ⟨x15, h18, ⟨h17.1, (match h17.2 with | ⟨x16, h16, h15⟩ => ⟨x16, h16, ⟨fun h14 => ⟨(h15.1 h14).1, (match (h15.1 h14).2 with | ⟨x17, h13, h12⟩ => ⟨x17, h13, ⟨fun h11 => ⟨(L_ref1_NatDiv_1.mk (IntKind.u64.wrap (x10.t15 - 1))), ⟨⟨rfl, rfl, rfl, rfl, rfl, rfl, rfl, trivial⟩, ⟨rfl, rfl, trivial⟩⟩, (h12.1 h11)⟩, fun h11 => ⟨(L_ref1_NatDiv_2.mk (IntKind.u64.wrap (x10.t15 - 1)) (IntKind.u64.wrap (x10.t16 + (IntKind.u64.wrap x17)))), ⟨⟨rfl, rfl, rfl, rfl, rfl, rfl, rfl, rfl, trivial⟩, ⟨rfl, rfl, trivial⟩⟩, (h12.2 h11).1, (h12.2 h11).2⟩⟩⟩)⟩, fun h14 => ⟨(L_ref1_NatDiv_1.mk x10.t15), ⟨⟨rfl, rfl, rfl, rfl, rfl, rfl, rfl, trivial⟩, ⟨rfl, rfl, trivial⟩⟩, (h15.2 h14)⟩⟩⟩)⟩⟩)⟩⟩⟩, fun x8 V8 h41 h42 => ⟨⟨(L_ref1_NatDiv_3.mk 0 0 0 x3.o57 x3.o69), ⟨⟨rfl, rfl, rfl, rfl, rfl, rfl, rfl, rfl, rfl, rfl, trivial⟩, ⟨rfl, rfl, trivial⟩⟩, (h43.2.2 x8 V8 h41 h42).1⟩, fun x22 V10 h39 h40 => ⟨fun h38 => ⟨(((h43.2.2 x8 V8 h41 h42).2 x22 V10 h39 h40).1 h38).1, (match (((h43.2.2 x8 V8 h41 h42).2 x22 V10 h39 h40).1 h38).2 with | ⟨x23, h25, h24⟩ => ⟨x23, h25, ⟨h24.1, (match h24.2 with | ⟨x24, h23, h22⟩ => ⟨x24, h23, ⟨h22.1, ⟨h22.2.1, ⟨(L_ref1_NatDiv_3.mk (Int.fdiv (IntKind.u64.wrap ((IntKind.u64.wrap ((IntKind.u64.wrap x24) - (IntKind.u64.wrap (BitVec.toNat ((BitVec.ofInt IntKind.u64.bits (IntKind.u64.wrap ((IntKind.u64.wrap (x8.t15 * (IntKind.u64.wrap x23))) + x22.t18))) &&& (BitVec.ofInt IntKind.u64.bits 4294967295)))))) - x22.t17)) (2 ^ (min (Int.toNat 63) (IntKind.u64.bits)))) (Int.fdiv (IntKind.u64.wrap ((IntKind.u64.wrap (x8.t15 * (IntKind.u64.wrap x23))) + x22.t18)) (2 ^ (min (Int.toNat 32) (IntKind.u64.bits)))) (IntKind.i64.wrap (x22.t19 + 1)) (List.set x22.o57 (0 + Int.toNat (IntKind.i64.wrap (x22.t19 + x3.t13)) * 1) (.int .u32 (IntKind.u32.wrap (IntKind.u64.wrap ((IntKind.u64.wrap ((IntKind.u64.wrap x24) - (IntKind.u64.wrap (BitVec.toNat ((BitVec.ofInt IntKind.u64.bits (IntKind.u64.wrap ((IntKind.u64.wrap (x8.t15 * (IntKind.u64.wrap x23))) + x22.t18))) &&& (BitVec.ofInt IntKind.u64.bits 4294967295)))))) - x22.t17))))) x22.o69), ⟨⟨rfl, rfl, rfl, rfl, rfl, rfl, rfl, rfl, rfl, rfl, trivial⟩, ⟨rfl, rfl, trivial⟩⟩, h22.2.2.1, h22.2.2.2⟩⟩⟩⟩)⟩⟩)⟩, fun h38 => ⟨(((h43.2.2 x8 V8 h41 h42).2 x22 V10 h39 h40).2 h38).1, (match (((h43.2.2 x8 V8 h41 h42).2 x22 V10 h39 h40).2 h38).2 with | ⟨x26, h37, h36⟩ => ⟨x26, h37, ⟨h36.1, ⟨h36.2.1, ⟨fun h35 => ⟨⟨(L_ref1_NatDiv_4.mk 0 0 (List.set x22.o57 (0 + Int.toNat (IntKind.i64.wrap (x3.t13 + (r6.len : Int))) * 1) (.int .u32 (IntKind.u32.wrap (IntKind.u64.wrap ((IntKind.u64.wrap ((IntKind.u64.wrap x26) - x22.t18)) - x22.t17))))) x22.o69), ⟨⟨rfl, rfl, rfl, rfl, rfl, rfl, rfl, rfl, rfl, trivial⟩, ⟨rfl, rfl, trivial⟩⟩, (h36.2.2.1 h35).1⟩, fun x28 V11 h33 h34 => ⟨fun h32 => ⟨(((h36.2.2.1 h35).2 x28 V11 h33 h34).1 h32).1, (match (((h36.2.2.1 h35).2 x28 V11 h33 h34).1 h32).2 with | ⟨x29, h29, h28⟩ => ⟨x29, h29, ⟨h28.1, (match h28.2 with | ⟨x30, h27, h26⟩ => ⟨x30, h27, ⟨h26.1, ⟨h26.2.1, ⟨(L_ref1_NatDiv_4.mk (Int.fdiv (IntKind.u64.wrap ((IntKind.u64.wrap ((IntKind.u64.wrap x29) + (IntKind.u64.wrap x30))) + x28.t18)) (2 ^ (min (Int.toNat 32) (IntKind.u64.bits)))) (IntKind.i64.wrap (x28.t23 + 1)) (List.set x28.o57 (0 + Int.toNat (IntKind.i64.wrap (x28.t23 + x3.t13)) * 1) (.int .u32 (IntKind.u32.wrap (IntKind.u64.wrap ((IntKind.u64.wrap ((IntKind.u64.wrap x29) + (IntKind.u64.wrap x30))) + x28.t18))))) x28.o69), ⟨⟨rfl, rfl, rfl, rfl, rfl, rfl, rfl, rfl, rfl, trivial⟩, ⟨rfl, rfl, trivial⟩⟩, h26.2.2.1, h26.2.2.2⟩⟩⟩⟩)⟩⟩)⟩, fun h32 => ⟨(((h36.2.2.1 h35).2 x28 V11 h33 h34).2 h32).1, (match (((h36.2.2.1 h35).2 x28 V11 h33 h34).2 h32).2 with | ⟨x32, h31, h30⟩ => ⟨x32, h31, ⟨h30.1, ⟨h30.2.1, ⟨h30.2.2.1, ⟨h30.2.2.2.1, ⟨(L_ref1_NatDiv_0.mk (IntKind.i64.wrap (x3.t13 - 1)) (List.set x28.o57 (0 + Int.toNat (IntKind.i64.wrap (x3.t13 + (r6.len : Int))) * 1) (.int .u32 (IntKind.u32.wrap (x32 + (IntKind.u32.wrap x28.t18))))) (List.set x28.o69 (0 + Int.toNat x3.t13 * 1) (.int .u32 (IntKind.u32.wrap (IntKind.u64.wrap (x8.t15 - 1)))))), ⟨⟨rfl, rfl, rfl, rfl, rfl, rfl, trivial⟩, ⟨rfl, rfl, trivial⟩⟩, h30.2.2.2.2.1, h30.2.2.2.2.2⟩⟩⟩⟩⟩⟩)⟩⟩⟩, fun h35 => ⟨(h36.2.2.2 h35).1, ⟨(h36.2.2.2 h35).2.1, ⟨(L_ref1_NatDiv_0.mk (IntKind.i64.wrap (x3.t13 - 1)) (List.set x22.o57 (0 + Int.toNat (IntKind.i64.wrap (x3.t13 + (r6.len : Int))) * 1) (.int .u32 (IntKind.u32.wrap (IntKind.u64.wrap ((IntKind.u64.wrap ((IntKind.u64.wrap x26) - x22.t18)) - x22.t17))))) (List.set x22.o69 (0 + Int.toNat x3.t13 * 1) (.int .u32 (IntKind.u32.wrap x8.t15)))), ⟨⟨rfl, rfl, rfl, rfl, rfl, rfl, trivial⟩, ⟨rfl, rfl, trivial⟩⟩, (h36.2.2.2 h35).2.2.1, (h36.2.2.2 h35).2.2.2⟩⟩⟩⟩⟩⟩⟩)⟩⟩⟩⟩⟩⟩)⟩⟩⟩)⟩⟩)⟩⟩)⟩, fun h61 => (fun b1 V12 h59 h60 => (fun b2 V13 h57 h58 => ⟨((((h64.2.2 x3 V7 h62 h63).2 h61) b1 V12 h59 h60) b2 V13 h57 h58).1, (CallV.mono ((((h64.2.2 x3 V7 h62 h63).2 h61) b1 V12 h59 h60) b2 V13 h57 h58).2 (fun _ _ _ ⟨r8, h56, h55⟩ => ⟨r8, h56, (CallV.mono h55 (fun _ _ _ ⟨r9, h54, h53⟩ => ⟨r9, h54, (CallV.mono h53 (fun _ _ _ ⟨r10, h52, h51⟩ => ⟨r10, h52, h51⟩))⟩))⟩))⟩))⟩⟩⟩⟩)⟩))⟩⟩))⟩))⟩⟩⟩))))

end Go.Proofs.Ytcapadojlaojkaa

set_option maxRecDepth 100000
set_option maxHeartbeats 4000000
namespace Go.Proofs.Ytcapadojlaojkaa
open Go Go.Vc Go.Proofs

structure L_ref1_natDigit_0 where
  t7 : Int
  t8 : Int
  o12 : List Value
/-- waveport/waveportref01.natDigit -/
theorem ref1_natDigit_vc (p0 : Sl) (p1 : Int) (V : View) (R : Value → View → Prop) (I_ref1_natDigit_0 : Unit → L_ref1_natDigit_0 → View → Prop) (mu_ref1_natDigit_0 : Unit → L_ref1_natDigit_0 → View → Nat)
  (h :
    ((0 : Int) ≤ (p0.len : Int) ∧ ((p0.len : Int) : Int) ≤ (p0.len : Int) ∧ (4 : Int) * (p0.len : Int) ≤ 281474976710656 ∧ ((p0.len : Int) : Int) ≤ 9223372036854775807) ∧
    I_ref1_natDigit_0 () (L_ref1_natDigit_0.mk 0 (IntKind.i64.wrap ((p0.len : Int) - 1)) ((List.replicate (Int.toNat (p0.len : Int)) [Value.int .u32 0]).flatten)) V ∧
    (∀ (x2 : L_ref1_natDigit_0) (V1 : View), View.le V V1 → I_ref1_natDigit_0 () x2 V1 →
      ((decide ((x2.t8 : Int) ≥ 0)) = true →
        ((0 : Int) ≤ x2.t8 ∧ (x2.t8 : Int) < (p0.len : Nat) ∧ Option.isSome p0.a = true) ∧
      ∃ x3 : Int, View.load V1 (Option.map (fun q => Addr.add q (Int.toNat x2.t8 * 1)) p0.a) = some (.int .u32 x3) ∧
      ((IntKind.u64.wrap p1) : Int) ≠ 0 ∧
      ((0 : Int) ≤ x2.t8 ∧ (x2.t8 : Int) < (Int.toNat (p0.len : Int) : Nat)) ∧
      0 + Int.toNat x2.t8 * 1 + 1 ≤ List.length x2.o12 ∧
      ((IntKind.u64.wrap p1) : Int) ≠ 0 ∧
      I_ref1_natDigit_0 () (L_ref1_natDigit_0.mk (Int.tmod (IntKind.u64.wrap (BitVec.toNat ((BitVec.ofInt IntKind.u64.bits (IntKind.u64.wrap (x2.t7 * 2 ^ (min (Int.toNat 32) (IntKind.u64.bits))))) ||| (BitVec.ofInt IntKind.u64.bits (IntKind.u64.wrap x3))))) (IntKind.u64.wrap p1)) (IntKind.i64.wrap (x2.t8 - 1)) (List.set x2.o12 (0 + Int.toNat x2.t8 * 1) (.int .u32 (IntKind.u32.wrap (IntKind.u64.wrap (Int.tdiv (IntKind.u64.wrap (BitVec.toNat ((BitVec.ofInt IntKind.u64.bits (IntKind.u64.wrap (x2.t7 * 2 ^ (min (Int.toNat 32) (IntKind.u64.bits))))) ||| (BitVec.ofInt IntKind.u64.bits (IntKind.u64.wrap x3))))) (IntKind.u64.wrap p1))))))) V1 ∧ mu_ref1_natDigit_0 () (L_ref1_natDigit_0.mk (Int.tmod (IntKind.u64.wrap (BitVec.toNat ((BitVec.ofInt IntKind.u64.bits (IntKind.u64.wrap (x2.t7 * 2 ^ (min (Int.toNat 32) (IntKind.u64.bits))))) ||| (BitVec.ofInt IntKind.u64.bits (IntKind.u64.wrap x3))))) (IntKind.u64.wrap p1)) (IntKind.i64.wrap (x2.t8 - 1)) (List.set x2.o12 (0 + Int.toNat x2.t8 * 1) (.int .u32 (IntKind.u32.wrap (IntKind.u64.wrap (Int.tdiv (IntKind.u64.wrap (BitVec.toNat ((BitVec.ofInt IntKind.u64.bits (IntKind.u64.wrap (x2.t7 * 2 ^ (min (Int.toNat 32) (IntKind.u64.bits))))) ||| (BitVec.ofInt IntKind.u64.bits (IntKind.u64.wrap x3))))) (IntKind.u64.wrap p1))))))) V1 < mu_ref1_natDigit_0 () x2 V1) ∧
      ((decide ((x2.t8 : Int) ≥ 0)) = false →
        ∀ (b1 : Nat) (V2 : View), View.le V1 V2 → V2 b1 = some (List.toArray x2.o12) →
    CallV Try.prog 142 #[(Sl.mk (some (Addr.mk b1 0 none)) (Int.toNat (p0.len : Int)) (Int.toNat (p0.len : Int))).v] V2 fun v V3 => ∃ r1 : Sl, v = r1.v ∧ -- waveportref01.trim
    R (.tuple #[r1.v, .int .u32 (IntKind.u32.wrap x2.t7)]) V3))) :
  CallV Try.prog 163 #[p0.v, .int .u32 p1] V R :=
  calls_of_vc (Shp := Shp) hmixed Try.func163 (c := Try.f163.body.getD .skip) (args := [p0.v, .int .u32 p1]) (by kernel_rfl)
    (.seq (.reg [⟨4, 2, false⟩, ⟨5, 2, false⟩]) (.seq (.reg [⟨10, 2, false⟩, ⟨11, 0, false⟩, ⟨12, 3, false⟩, ⟨6, 2, false⟩]) (.seq (.reg [⟨7, 2, false⟩]) (.seq (.seq (.reg [⟨13, 2, false⟩, ⟨14, 0, false⟩, ⟨15, 0, false⟩, ⟨8, 2, false⟩]) (.block (.loop Unit L_ref1_natDigit_0 (fun _ => ()) (fun c x => { tm := spT 44 0 [(0, .val (p0.v)), (1, .val (.int .u32 p1)), (6, .osl 12 0 (Int.toNat (p0.len : Int)) (Int.toNat (p0.len : Int))), (7, .val (.int .u64 x.t7)), (8, .val (.int .i64 x.t8))], own := spO 44 0 [(12, ⟨142, .dyn x.o12⟩)] }) I_ref1_natDigit_0 mu_ref1_natDigit_0 (.seq (.seq (.reg [⟨16, 2, false⟩, ⟨17, 0, false⟩]) (.cond .leaf .leaf)) (.seq (.block (.seq (.reg [⟨20, 2, false⟩, ⟨21, 0, false⟩, ⟨22, 2, false⟩, ⟨23, 2, false⟩, ⟨24, 7, false⟩, ⟨25, 5, false⟩, ⟨26, 0, false⟩, ⟨27, 0, false⟩, ⟨9, 2, false⟩]) (.seq (.reg [⟨28, 2, false⟩, ⟨29, 2, false⟩, ⟨30, 2, false⟩, ⟨31, 2, false⟩, ⟨32, 0, false⟩, ⟨33, 12, false⟩, ⟨34, 0, false⟩, ⟨35, 7, false⟩, ⟨12, 6, false⟩]) (.reg [⟨36, 2, false⟩, ⟨37, 2, false⟩, ⟨38, 0, false⟩, ⟨39, 12, false⟩, ⟨7, 2, false⟩])))) (.reg [⟨18, 2, false⟩, ⟨19, 0, false⟩, ⟨8, 2, false⟩])))))) (.seq (.pub 12 (.reg [⟨40, 2, false⟩, ⟨41, 10, false⟩, ⟨42, 2, false⟩, ⟨43, 0, false⟩, ⟨4, 2, false⟩, ⟨5, 2, false⟩])) .leaf)))))
    (Eq.mpr (by kernel_rfl) (show ((0 : Int) ≤ (p0.len : Int) ∧ ((p0.len : Int) : Int) ≤ (p0.len : Int) ∧ (4 : Int) * (p0.len : Int) ≤ 281474976710656 ∧ ((p0.len : Int) : Int) ≤ 9223372036854775807) ∧
    (∃ x1 : L_ref1_natDigit_0, ((SV.val (p0.v) = SV.val (p0.v) ∧ SV.val (.int .u32 p1) = SV.val (.int .u32 p1) ∧ SV.osl 12 0 (Int.toNat (p0.len : Int)) (Int.toNat (p0.len : Int)) = SV.osl 12 0 (Int.toNat (p0.len : Int)) (Int.toNat (p0.len : Int)) ∧ SV.val (.int .u64 0) = SV.val (.int .u64 x1.t7) ∧ SV.val (.int .i64 (IntKind.i64.wrap ((p0.len : Int) - 1))) = SV.val (.int .i64 x1.t8) ∧ True) ∧ ((some (⟨142, .dyn ((List.replicate (Int.toNat (p0.len : Int)) [Value.int .u32 0]).flatten)⟩) : Option OB) = some (⟨142, .dyn x1.o12⟩) ∧ True)) ∧ I_ref1_natDigit_0 () x1 V) ∧
    (∀ (x2 : L_ref1_natDigit_0) (V1 : View), View.le V V1 → I_ref1_natDigit_0 () x2 V1 →
      ((decide ((x2.t8 : Int) ≥ 0)) = true →
        ((0 : Int) ≤ x2.t8 ∧ (x2.t8 : Int) < (p0.len : Nat) ∧ Option.isSome p0.a = true) ∧
      ∃ x3 : Int, View.load V1 (Option.map (fun q => Addr.add q (Int.toNat x2.t8 * 1)) p0.a) = some (.int .u32 x3) ∧
      ((IntKind.u64.wrap p1) : Int) ≠ 0 ∧
      ((0 : Int) ≤ x2.t8 ∧ (x2.t8 : Int) < (Int.toNat (p0.len : Int) : Nat)) ∧
      0 + Int.toNat x2.t8 * 1 + 1 ≤ List.length x2.o12 ∧
      ((IntKind.u64.wrap p1) : Int) ≠ 0 ∧
      ∃ x4 : L_ref1_natDigit_0, ((SV.val (p0.v) = SV.val (p0.v) ∧ SV.val (.int .u32 p1) = SV.val (.int .u32 p1) ∧ SV.osl 12 0 (Int.toNat (p0.len : Int)) (Int.toNat (p0.len : Int)) = SV.osl 12 0 (Int.toNat (p0.len : Int)) (Int.toNat (p0.len : Int)) ∧ SV.val (.int .u64 (Int.tmod (IntKind.u64.wrap (BitVec.toNat ((BitVec.ofInt IntKind.u64.bits (IntKind.u64.wrap (x2.t7 * 2 ^ (min (Int.toNat 32) (IntKind.u64.bits))))) ||| (BitVec.ofInt IntKind.u64.bits (IntKind.u64.wrap x3))))) (IntKind.u64.wrap p1))) = SV.val (.int .u64 x4.t7) ∧ SV.val (.int .i64 (IntKind.i64.wrap (x2.t8 - 1))) = SV.val (.int .i64 x4.t8) ∧ True) ∧ ((some (⟨142, .dyn (List.set x2.o12 (0 + Int.toNat x2.t8 * 1) (.int .u32 (IntKind.u32.wrap (IntKind.u64.wrap (Int.tdiv (IntKind.u64.wrap (BitVec.toNat ((BitVec.ofInt IntKind.u64.bits (IntKind.u64.wrap (x2.t7 * 2 ^ (min (Int.toNat 32) (IntKind.u64.bits))))) ||| (BitVec.ofInt IntKind.u64.bits (IntKind.u64.wrap x3))))) (IntKind.u64.wrap p1))))))⟩) : Option OB) = some (⟨142, .dyn x4.o12⟩) ∧ True)) ∧ I_ref1_natDigit_0 () x4 V1 ∧ mu_ref1_natDigit_0 () x4 V1 < mu_ref1_natDigit_0 () x2 V1) ∧
      ((decide ((x2.t8 : Int) ≥ 0)) = false →
        ∀ (b1 : Nat) (V2 : View), View.le V1 V2 → V2 b1 = some (List.toArray x2.o12) →
    CallV Try.prog 142 #[(Sl.mk (some (Addr.mk b1 0 none)) (Int.toNat (p0.len : Int)) (Int.toNat (p0.len : Int))).v] V2 fun v V3 => ∃ r1 : Sl, v = r1.v ∧ -- waveportref01.trim
    R (.tuple #[r1.v, .int .u32 (IntKind.u32.wrap x2.t7)]) V3)) from ⟨h.1, ⟨⟨(L_ref1_natDigit_0.mk 0 (IntKind.i64.wrap ((p0.len : Int) - 1)) ((List.replicate (Int.toNat (p0.len : Int)) [Value.int .u32 0]).flatten)), ⟨⟨rfl, rfl, rfl, rfl, rfl, trivial⟩, ⟨rfl, trivial⟩⟩, h.2.1⟩, fun x2 V1 h8 h9 => ⟨fun h7 => ⟨((h.2.2 x2 V1 h8 h9).1 h7).1, (match ((h.2.2 x2 V1 h8 h9).1 h7).2 with | ⟨x3, h2, h1⟩ => ⟨x3, h2, ⟨h1.1, ⟨h1.2.1, ⟨h1.2.2.1, ⟨h1.2.2.2.1, ⟨(L_ref1_natDigit_0.mk (Int.tmod (IntKind.u64.wrap (BitVec.toNat ((BitVec.ofInt IntKind.u64.bits (IntKind.u64.wrap (x2.t7 * 2 ^ (min (Int.toNat 32) (IntKind.u64.bits))))) ||| (BitVec.ofInt IntKind.u64.bits (IntKind.u64.wrap x3))))) (IntKind.u64.wrap p1)) (IntKind.i64.wrap (x2.t8 - 1)) (List.set x2.o12 (0 + Int.toNat x2.t8 * 1) (.int .u32 (IntKind.u32.wrap (IntKind.u64.wrap (Int.tdiv (IntKind.u64.wrap (BitVec.toNat ((BitVec.ofInt IntKind.u64.bits (IntKind.u64.wrap (x2.t7 * 2 ^ (min (Int.toNat 32) (IntKind.u64.bits))))) ||| (BitVec.ofInt IntKind.u64.bits (IntKind.u64.wrap x3))))) (IntKind.u64.wrap p1))))))), ⟨⟨rfl, rfl, rfl, rfl, rfl, trivial⟩, ⟨rfl, trivial⟩⟩, h1.2.2.2.2.1, h1.2.2.2.2.2⟩⟩⟩⟩⟩⟩)⟩, fun h7 => (fun b1 V2 h5 h6 => (CallV.mono (((h.2.2 x2 V1 h8 h9).2 h7) b1 V2 h5 h6) (fun _ _ _ ⟨r1, h4, h3⟩ => ⟨r1, h4, h3⟩)))⟩⟩⟩))

structure L_ref1_NatBits_0 where
  t3 : Int
  t4 : Int
/-- waveport/waveportref01.NatBits -/
theorem ref1_NatBits_vc (p0 : Sl) (V : View) (R : Value → View → Prop) (I_ref1_NatBits_0 : Unit → L_ref1_NatBits_0 → View → Prop) (mu_ref1_NatBits_0 : Unit → L_ref1_NatBits_0 → View → Nat)
  (h :
    ((((p0.len : Int) : Int) == 0) = true →
      R (.int .i64 0) V) ∧
    ((((p0.len : Int) : Int) == 0) = false →
      ((0 : Int) ≤ (IntKind.i64.wrap ((p0.len : Int) - 1)) ∧ ((IntKind.i64.wrap ((p0.len : Int) - 1)) : Int) < (p0.len : Nat) ∧ Option.isSome p0.a = true) ∧
    ∃ x1 : Int, View.load V (Option.map (fun q => Addr.add q (Int.toNat (IntKind.i64.wrap ((p0.len : Int) - 1)) * 1)) p0.a) = some (.int .u32 x1) ∧
    I_ref1_NatBits_0 () (L_ref1_NatBits_0.mk 0 x1) V ∧
    (∀ (x3 : L_ref1_NatBits_0) (V1 : View), View.le V V1 → I_ref1_NatBits_0 () x3 V1 →
      ((decide ((x3.t4 : Int) > 0)) = true →
        I_ref1_NatBits_0 () (L_ref1_NatBits_0.mk (IntKind.i64.wrap (x3.t3 + 1)) (Int.fdiv x3.t4 (2 ^ (min (Int.toNat 1) (IntKind.u32.bits))))) V1 ∧ mu_ref1_NatBits_0 () (L_ref1_NatBits_0.mk (IntKind.i64.wrap (x3.t3 + 1)) (Int.fdiv x3.t4 (2 ^ (min (Int.toNat 1) (IntKind.u32.bits))))) V1 < mu_ref1_NatBits_0 () x3 V1) ∧
      ((decide ((x3.t4 : Int) > 0)) = false →
        R (.int .i64 (IntKind.i64.wrap ((IntKind.i64.wrap (32 * (IntKind.i64.wrap ((p0.len : Int) - 1)))) + x3.t3))) V1)))) :
  CallV Try.prog 164 #[p0.v] V R :=
  calls_of_vc (Shp := Shp) hmixed Try.func164 (c := Try.f164.body.getD .skip) (args := [p0.v]) (by kernel_rfl)
    (.seq (.reg [⟨2, 2, false⟩]) (.seq (.seq (.reg [⟨5, 2, false⟩, ⟨6, 0, false⟩, ⟨7, 0, false⟩]) (.cond (.seq (.reg [⟨2, 2, false⟩]) .leaf) .leaf)) (.seq (.reg [⟨3, 2, false⟩]) (.seq (.seq (.reg [⟨8, 2, false⟩, ⟨9, 2, false⟩, ⟨10, 0, false⟩, ⟨11, 0, false⟩, ⟨12, 7, false⟩, ⟨13, 5, false⟩, ⟨4, 2, false⟩]) (.block (.loop Unit L_ref1_NatBits_0 (fun _ => ()) (fun c x => { tm := spT 26 0 [(0, .val (p0.v)), (3, .val (.int .i64 x.t3)), (4, .val (.int .u32 x.t4))], own := spO 26 0 [] }) I_ref1_NatBits_0 mu_ref1_NatBits_0 (.seq (.seq (.reg [⟨14, 2, false⟩, ⟨15, 0, false⟩]) (.cond .leaf .leaf)) (.seq (.block (.reg [⟨18, 2, false⟩, ⟨19, 0, false⟩, ⟨3, 2, false⟩])) (.reg [⟨16, 2, false⟩, ⟨17, 0, false⟩, ⟨4, 2, false⟩])))))) (.seq (.reg [⟨20, 2, false⟩, ⟨21, 0, false⟩, ⟨22, 0, false⟩, ⟨23, 0, false⟩, ⟨24, 2, false⟩, ⟨25, 0, false⟩, ⟨2, 2, false⟩]) .leaf)))))
    (Eq.mpr (by kernel_rfl) (show ((((p0.len : Int) : Int) == 0) = true →
      R (.int .i64 0) V) ∧
    ((((p0.len : Int) : Int) == 0) = false →
      ((0 : Int) ≤ (IntKind.i64.wrap ((p0.len : Int) - 1)) ∧ ((IntKind.i64.wrap ((p0.len : Int) - 1)) : Int) < (p0.len : Nat) ∧ Option.isSome p0.a = true) ∧
    ∃ x1 : Int, View.load V (Option.map (fun q => Addr.add q (Int.toNat (IntKind.i64.wrap ((p0.len : Int) - 1)) * 1)) p0.a) = some (.int .u32 x1) ∧
    (∃ x2 : L_ref1_NatBits_0, ((SV.val (p0.v) = SV.val (p0.v) ∧ SV.val (.int .i64 0) = SV.val (.int .i64 x2.t3) ∧ SV.val (.int .u32 x1) = SV.val (.int .u32 x2.t4) ∧ True) ∧ (True)) ∧ I_ref1_NatBits_0 () x2 V) ∧
    (∀ (x3 : L_ref1_NatBits_0) (V1 : View), View.le V V1 → I_ref1_NatBits_0 () x3 V1 →
      ((decide ((x3.t4 : Int) > 0)) = true →
        ∃ x4 : L_ref1_NatBits_0, ((SV.val (p0.v) = SV.val (p0.v) ∧ SV.val (.int .i64 (IntKind.i64.wrap (x3.t3 + 1))) = SV.val (.int .i64 x4.t3) ∧ SV.val (.int .u32 (Int.fdiv x3.t4 (2 ^ (min (Int.toNat 1) (IntKind.u32.bits))))) = SV.val (.int .u32 x4.t4) ∧ True) ∧ (True)) ∧ I_ref1_NatBits_0 () x4 V1 ∧ mu_ref1_NatBits_0 () x4 V1 < mu_ref1_NatBits_0 () x3 V1) ∧
      ((decide ((x3.t4 : Int) > 0)) = false →
        R (.int .i64 (IntKind.i64.wrap ((IntKind.i64.wrap (32 * (IntKind.i64.wrap ((p0.len : Int) - 1)))) + x3.t3))) V1))) from ⟨fun h6 => (h.1 h6), fun h6 => ⟨(h.2 h6).1, (match (h.2 h6).2 with | ⟨x1, h5, h4⟩ => ⟨x1, h5, ⟨⟨(L_ref1_NatBits_0.mk 0 x1), ⟨⟨rfl, rfl, rfl, trivial⟩, trivial⟩, h4.1⟩, fun x3 V1 h2 h3 => ⟨fun h1 => ⟨(L_ref1_NatBits_0.mk (IntKind.i64.wrap (x3.t3 + 1)) (Int.fdiv x3.t4 (2 ^ (min (Int.toNat 1) (IntKind.u32.bits))))), ⟨⟨rfl, rfl, rfl, trivial⟩, trivial⟩, ((h4.2 x3 V1 h2 h3).1 h1).1, ((h4.2 x3 V1 h2 h3).1 h1).2⟩, fun h1 => ((h4.2 x3 V1 h2 h3).2 h1)⟩⟩⟩)⟩⟩))

structure L_ref1_NatShl_0 where
  t6 : Int
  o17 : List Value
/-- waveport/waveportref01.NatShl -/
theorem ref1_NatShl_vc (p0 : Sl) (p1 : Int) (V : View) (R : Value → View → Prop) (I_ref1_NatShl_0 : Unit → L_ref1_NatShl_0 → View → Prop) (mu_ref1_NatShl_0 : Unit → L_ref1_NatShl_0 → View → Nat)
  (h :
    ((((p0.len : Int) : Int) == 0) = true →
      R ((Sl.mk none 0 0).v) V) ∧
    ((((p0.len : Int) : Int) == 0) = false →
      ((0 : Int) ≤ (IntKind.i64.wrap ((IntKind.i64.wrap ((p0.len : Int) + (IntKind.i64.wrap (Int.tdiv p1 32)))) + 1)) ∧ ((IntKind.i64.wrap ((IntKind.i64.wrap ((p0.len : Int) + (IntKind.i64.wrap (Int.tdiv p1 32)))) + 1)) : Int) ≤ (IntKind.i64.wrap ((IntKind.i64.wrap ((p0.len : Int) + (IntKind.i64.wrap (Int.tdiv p1 32)))) + 1)) ∧ (4 : Int) * (IntKind.i64.wrap ((IntKind.i64.wrap ((p0.len : Int) + (IntKind.i64.wrap (Int.tdiv p1 32)))) + 1)) ≤ 281474976710656 ∧ ((IntKind.i64.wrap ((IntKind.i64.wrap ((p0.len : Int) + (IntKind.i64.wrap (Int.tdiv p1 32)))) + 1)) : Int) ≤ 9223372036854775807) ∧
    I_ref1_NatShl_0 () (L_ref1_NatShl_0.mk 0 ((List.replicate (Int.toNat (IntKind.i64.wrap ((IntKind.i64.wrap ((p0.len : Int) + (IntKind.i64.wrap (Int.tdiv p1 32)))) + 1))) [Value.int .u32 0]).flatten)) V ∧
    (∀ (x2 : L_ref1_NatShl_0) (V1 : View), View.le V V1 → I_ref1_NatShl_0 () x2 V1 →
      ((decide ((x2.t6 : Int) < (p0.len : Int))) = true →
        ((0 : Int) ≤ x2.t6 ∧ (x2.t6 : Int) < (p0.len : Nat) ∧ Option.isSome p0.a = true) ∧
      ∃ x3 : Int, View.load V1 (Option.map (fun q => Addr.add q (Int.toNat x2.t6 * 1)) p0.a) = some (.int .u32 x3) ∧
      (0 : Int) ≤ (IntKind.u64.wrap (Int.tmod p1 32)) ∧
      ((0 : Int) ≤ (IntKind.i64.wrap (x2.t6 + (IntKind.i64.wrap (Int.tdiv p1 32)))) ∧ ((IntKind.i64.wrap (x2.t6 + (IntKind.i64.wrap (Int.tdiv p1 32)))) : Int) < (Int.toNat (IntKind.i64.wrap ((IntKind.i64.wrap ((p0.len : Int) + (IntKind.i64.wrap (Int.tdiv p1 32)))) + 1)) : Nat)) ∧
      ∃ x4 : Int, x2.o17[0 + Int.toNat (IntKind.i64.wrap (x2.t6 + (IntKind.i64.wrap (Int.tdiv p1 32)))) * 1]? = some (.int .u32 x4) ∧
      ((0 : Int) ≤ (IntKind.i64.wrap (x2.t6 + (IntKind.i64.wrap (Int.tdiv p1 32)))) ∧ ((IntKind.i64.wrap (x2.t6 + (IntKind.i64.wrap (Int.tdiv p1 32)))) : Int) < (Int.toNat (IntKind.i64.wrap ((IntKind.i64.wrap ((p0.len : Int) + (IntKind.i64.wrap (Int.tdiv p1 32)))) + 1)) : Nat)) ∧
      0 + Int.toNat (IntKind.i64.wrap (x2.t6 + (IntKind.i64.wrap (Int.tdiv p1 32)))) * 1 + 1 ≤ List.length x2.o17 ∧
      ((0 : Int) ≤ (IntKind.i64.wrap ((IntKind.i64.wrap (x2.t6 + (IntKind.i64.wrap (Int.tdiv p1 32)))) + 1)) ∧ ((IntKind.i64.wrap ((IntKind.i64.wrap (x2.t6 + (IntKind.i64.wrap (Int.tdiv p1 32)))) + 1)) : Int) < (Int.toNat (IntKind.i64.wrap ((IntKind.i64.wrap ((p0.len : Int) + (IntKind.i64.wrap (Int.tdiv p1 32)))) + 1)) : Nat)) ∧
      0 + Int.toNat (IntKind.i64.wrap ((IntKind.i64.wrap (x2.t6 + (IntKind.i64.wrap (Int.tdiv p1 32)))) + 1)) * 1 + 1 ≤ List.length (List.set x2.o17 (0 + Int.toNat (IntKind.i64.wrap (x2.t6 + (IntKind.i64.wrap (Int.tdiv p1 32)))) * 1) (.int .u32 (IntKind.u32.wrap (BitVec.toNat ((BitVec.ofInt IntKind.u32.bits x4) ||| (BitVec.ofInt IntKind.u32.bits (IntKind.u32.wrap (IntKind.u64.wrap ((IntKind.u64.wrap x3) * 2 ^ (min (Int.toNat (IntKind.u64.wrap (Int.tmod p1 32))) (IntKind.bits .u64))))))))))) ∧
      I_ref1_NatShl_0 () (L_ref1_NatShl_0.mk (IntKind.i64.wrap (x2.t6 + 1)) (List.set (List.set x2.o17 (0 + Int.toNat (IntKind.i64.wrap (x2.t6 + (IntKind.i64.wrap (Int.tdiv p1 32)))) * 1) (.int .u32 (IntKind.u32.wrap (BitVec.toNat ((BitVec.ofInt IntKind.u32.bits x4) ||| (BitVec.ofInt IntKind.u32.bits (IntKind.u32.wrap (IntKind.u64.wrap ((IntKind.u64.wrap x3) * 2 ^ (min (Int.toNat (IntKind.u64.wrap (Int.tmod p1 32))) (IntKind.bits .u64))))))))))) (0 + Int.toNat (IntKind.i64.wrap ((IntKind.i64.wrap (x2.t6 + (IntKind.i64.wrap (Int.tdiv p1 32)))) + 1)) * 1) (.int .u32 (IntKind.u32.wrap (Int.fdiv (IntKind.u64.wrap ((IntKind.u64.wrap x3) * 2 ^ (min (Int.toNat (IntKind.u64.wrap (Int.tmod p1 32))) (IntKind.bits .u64)))) (2 ^ (min (Int.toNat 32) (IntKind.u64.bits)))))))) V1 ∧ mu_ref1_NatShl_0 () (L_ref1_NatShl_0.mk (IntKind.i64.wrap (x2.t6 + 1)) (List.set (List.set x2.o17 (0 + Int.toNat (IntKind.i64.wrap (x2.t6 + (IntKind.i64.wrap (Int.tdiv p1 32)))) * 1) (.int .u32 (IntKind.u32.wrap (BitVec.toNat ((BitVec.ofInt IntKind.u32.bits x4) ||| (BitVec.ofInt IntKind.u32.bits (IntKind.u32.wrap (IntKind.u64.wrap ((IntKind.u64.wrap x3) * 2 ^ (min (Int.toNat (IntKind.u64.wrap (Int.tmod p1 32))) (IntKind.bits .u64))))))))))) (0 + Int.toNat (IntKind.i64.wrap ((IntKind.i64.wrap (x2.t6 + (IntKind.i64.wrap (Int.tdiv p1 32)))) + 1)) * 1) (.int .u32 (IntKind.u32.wrap (Int.fdiv (IntKind.u64.wrap ((IntKind.u64.wrap x3) * 2 ^ (min (Int.toNat (IntKind.u64.wrap (Int.tmod p1 32))) (IntKind.bits .u64)))) (2 ^ (min (Int.toNat 32) (IntKind.u64.bits)))))))) V1 < mu_ref1_NatShl_0 () x2 V1) ∧
      ((decide ((x2.t6 : Int) < (p0.len : Int))) = false →
        ∀ (b1 : Nat) (V2 : View), View.le V1 V2 → V2 b1 = some (List.toArray x2.o17) →
    CallV Try.prog 142 #[(Sl.mk (some (Addr.mk b1 0 none)) (Int.toNat (IntKind.i64.wrap ((IntKind.i64.wrap ((p0.len : Int) + (IntKind.i64.wrap (Int.tdiv p1 32)))) + 1))) (Int.toNat (IntKind.i64.wrap ((IntKind.i64.wrap ((p0.len : Int) + (IntKind.i64.wrap (Int.tdiv p1 32)))) + 1)))).v] V2 fun v V3 => ∃ r1 : Sl, v = r1.v ∧ -- waveportref01.trim
    R (r1.v) V3)))) :
  CallV Try.prog 165 #[p0.v, .int .i64 p1] V R :=
  calls_of_vc (Shp := Shp) hmixed Try.func165 (c := Try.f165.body.getD .skip) (args := [p0.v, .int .i64 p1]) (by kernel_rfl)
    (.seq (.reg [⟨4, 2, false⟩]) (.seq (.seq (.reg [⟨8, 2, false⟩, ⟨9, 0, false⟩, ⟨10, 0, false⟩]) (.cond (.seq (.reg [⟨4, 2, false⟩]) .leaf) .leaf)) (.seq (.reg [⟨11, 2, false⟩, ⟨12, 0, false⟩, ⟨13, 2, false⟩, ⟨14, 0, false⟩, ⟨15, 0, false⟩, ⟨16, 0, false⟩, ⟨17, 3, false⟩, ⟨5, 2, false⟩]) (.seq (.seq (.reg [⟨6, 2, false⟩]) (.block (.loop Unit L_ref1_NatShl_0 (fun _ => ()) (fun c x => { tm := spT 61 0 [(0, .val (p0.v)), (1, .val (.int .i64 p1)), (5, .osl 17 0 (Int.toNat (IntKind.i64.wrap ((IntKind.i64.wrap ((p0.len : Int) + (IntKind.i64.wrap (Int.tdiv p1 32)))) + 1))) (Int.toNat (IntKind.i64.wrap ((IntKind.i64.wrap ((p0.len : Int) + (IntKind.i64.wrap (Int.tdiv p1 32)))) + 1)))), (6, .val (.int .i64 x.t6))], own := spO 61 0 [(17, ⟨142, .dyn x.o17⟩)] }) I_ref1_NatShl_0 mu_ref1_NatShl_0 (.seq (.seq (.reg [⟨18, 2, false⟩, ⟨19, 2, false⟩, ⟨20, 0, false⟩, ⟨21, 0, false⟩]) (.cond .leaf .leaf)) (.seq (.block (.seq (.reg [⟨24, 2, false⟩, ⟨25, 2, false⟩, ⟨26, 7, false⟩, ⟨27, 5, false⟩, ⟨28, 0, false⟩, ⟨29, 2, false⟩, ⟨30, 0, false⟩, ⟨31, 0, false⟩, ⟨32, 12, false⟩, ⟨7, 2, false⟩]) (.seq (.reg [⟨33, 2, false⟩, ⟨34, 2, false⟩, ⟨35, 2, false⟩, ⟨36, 0, false⟩, ⟨37, 0, false⟩, ⟨38, 2, false⟩, ⟨39, 2, false⟩, ⟨40, 2, false⟩, ⟨41, 0, false⟩, ⟨42, 0, false⟩, ⟨43, 7, false⟩, ⟨17, 4, false⟩, ⟨45, 2, false⟩, ⟨46, 0, false⟩, ⟨47, 0, false⟩, ⟨48, 7, false⟩, ⟨17, 6, false⟩]) (.reg [⟨49, 2, false⟩, ⟨50, 2, false⟩, ⟨51, 2, false⟩, ⟨52, 0, false⟩, ⟨53, 0, false⟩, ⟨54, 0, false⟩, ⟨55, 2, false⟩, ⟨56, 0, false⟩, ⟨57, 0, false⟩, ⟨58, 7, false⟩, ⟨17, 6, false⟩])))) (.reg [⟨22, 2, false⟩, ⟨23, 0, false⟩, ⟨6, 2, false⟩])))))) (.seq (.pub 17 (.reg [⟨59, 2, false⟩, ⟨60, 10, false⟩, ⟨4, 2, false⟩])) .leaf)))))
    (Eq.mpr (by kernel_rfl) (show ((((p0.len : Int) : Int) == 0) = true →
      R ((Sl.mk none 0 0).v) V) ∧
    ((((p0.len : Int) : Int) == 0) = false →
      ((0 : Int) ≤ (IntKind.i64.wrap ((IntKind.i64.wrap ((p0.len : Int) + (IntKind.i64.wrap (Int.tdiv p1 32)))) + 1)) ∧ ((IntKind.i64.wrap ((IntKind.i64.wrap ((p0.len : Int) + (IntKind.i64.wrap (Int.tdiv p1 32)))) + 1)) : Int) ≤ (IntKind.i64.wrap ((IntKind.i64.wrap ((p0.len : Int) + (IntKind.i64.wrap (Int.tdiv p1 32)))) + 1)) ∧ (4 : Int) * (IntKind.i64.wrap ((IntKind.i64.wrap ((p0.len : Int) + (IntKind.i64.wrap (Int.tdiv p1 32)))) + 1)) ≤ 281474976710656 ∧ ((IntKind.i64.wrap ((IntKind.i64.wrap ((p0.len : Int) + (IntKind.i64.wrap (Int.tdiv p1 32)))) + 1)) : Int) ≤ 9223372036854775807) ∧
    (∃ x1 : L_ref1_NatShl_0, ((SV.val (p0.v) = SV.val (p0.v) ∧ SV.val (.int .i64 p1) = SV.val (.int .i64 p1) ∧ SV.osl 17 0 (Int.toNat (IntKind.i64.wrap ((IntKind.i64.wrap ((p0.len : Int) + (IntKind.i64.wrap (Int.tdiv p1 32)))) + 1))) (Int.toNat (IntKind.i64.wrap ((IntKind.i64.wrap ((p0.len : Int) + (IntKind.i64.wrap (Int.tdiv p1 32)))) + 1))) = SV.osl 17 0 (Int.toNat (IntKind.i64.wrap ((IntKind.i64.wrap ((p0.len : Int) + (IntKind.i64.wrap (Int.tdiv p1 32)))) + 1))) (Int.toNat (IntKind.i64.wrap ((IntKind.i64.wrap ((p0.len : Int) + (IntKind.i64.wrap (Int.tdiv p1 32)))) + 1))) ∧ SV.val (.int .i64 0) = SV.val (.int .i64 x1.t6) ∧ True) ∧ ((some (⟨142, .dyn ((List.replicate (Int.toNat (IntKind.i64.wrap ((IntKind.i64.wrap ((p0.len : Int) + (IntKind.i64.wrap (Int.tdiv p1 32)))) + 1))) [Value.int .u32 0]).flatten)⟩) : Option OB) = some (⟨142, .dyn x1.o17⟩) ∧ True)) ∧ I_ref1_NatShl_0 () x1 V) ∧
    (∀ (x2 : L_ref1_NatShl_0) (V1 : View), View.le V V1 → I_ref1_NatShl_0 () x2 V1 →
      ((decide ((x2.t6 : Int) < (p0.len : Int))) = true →
        ((0 : Int) ≤ x2.t6 ∧ (x2.t6 : Int) < (p0.len : Nat) ∧ Option.isSome p0.a = true) ∧
      ∃ x3 : Int, View.load V1 (Option.map (fun q => Addr.add q (Int.toNat x2.t6 * 1)) p0.a) = some (.int .u32 x3) ∧
      (0 : Int) ≤ (IntKind.u64.wrap (Int.tmod p1 32)) ∧
      ((0 : Int) ≤ (IntKind.i64.wrap (x2.t6 + (IntKind.i64.wrap (Int.tdiv p1 32)))) ∧ ((IntKind.i64.wrap (x2.t6 + (IntKind.i64.wrap (Int.tdiv p1 32)))) : Int) < (Int.toNat (IntKind.i64.wrap ((IntKind.i64.wrap ((p0.len : Int) + (IntKind.i64.wrap (Int.tdiv p1 32)))) + 1)) : Nat)) ∧
      ∃ x4 : Int, x2.o17[0 + Int.toNat (IntKind.i64.wrap (x2.t6 + (IntKind.i64.wrap (Int.tdiv p1 32)))) * 1]? = some (.int .u32 x4) ∧
      ((0 : Int) ≤ (IntKind.i64.wrap (x2.t6 + (IntKind.i64.wrap (Int.tdiv p1 32)))) ∧ ((IntKind.i64.wrap (x2.t6 + (IntKind.i64.wrap (Int.tdiv p1 32)))) : Int) < (Int.toNat (IntKind.i64.wrap ((IntKind.i64.wrap ((p0.len : Int) + (IntKind.i64.wrap (Int.tdiv p1 32)))) + 1)) : Nat)) ∧
      0 + Int.toNat (IntKind.i64.wrap (x2.t6 + (IntKind.i64.wrap (Int.tdiv p1 32)))) * 1 + 1 ≤ List.length x2.o17 ∧
      ((0 : Int) ≤ (IntKind.i64.wrap ((IntKind.i64.wrap (x2.t6 + (IntKind.i64.wrap (Int.tdiv p1 32)))) + 1)) ∧ ((IntKind.i64.wrap ((IntKind.i64.wrap (x2.t6 + (IntKind.i64.wrap (Int.tdiv p1 32)))) + 1)) : Int) < (Int.toNat (IntKind.i64.wrap ((IntKind.i64.wrap ((p0.len : Int) + (IntKind.i64.wrap (Int.tdiv p1 32)))) + 1)) : Nat)) ∧
      0 + Int.toNat (IntKind.i64.wrap ((IntKind.i64.wrap (x2.t6 + (IntKind.i64.wrap (Int.tdiv p1 32)))) + 1)) * 1 + 1 ≤ List.length (List.set x2.o17 (0 + Int.toNat (IntKind.i64.wrap (x2.t6 + (IntKind.i64.wrap (Int.tdiv p1 32)))) * 1) (.int .u32 (IntKind.u32.wrap (BitVec.toNat ((BitVec.ofInt IntKind.u32.bits x4) ||| (BitVec.ofInt IntKind.u32.bits (IntKind.u32.wrap (IntKind.u64.wrap ((IntKind.u64.wrap x3) * 2 ^ (min (Int.toNat (IntKind.u64.wrap (Int.tmod p1 32))) (IntKind.bits .u64))))))))))) ∧
      ∃ x5 : L_ref1_NatShl_0, ((SV.val (p0.v) = SV.val (p0.v) ∧ SV.val (.int .i64 p1) = SV.val (.int .i64 p1) ∧ SV.osl 17 0 (Int.toNat (IntKind.i64.wrap ((IntKind.i64.wrap ((p0.len : Int) + (IntKind.i64.wrap (Int.tdiv p1 32)))) + 1))) (Int.toNat (IntKind.i64.wrap ((IntKind.i64.wrap ((p0.len : Int) + (IntKind.i64.wrap (Int.tdiv p1 32)))) + 1))) = SV.osl 17 0 (Int.toNat (IntKind.i64.wrap ((IntKind.i64.wrap ((p0.len : Int) + (IntKind.i64.wrap (Int.tdiv p1 32)))) + 1))) (Int.toNat (IntKind.i64.wrap ((IntKind.i64.wrap ((p0.len : Int) + (IntKind.i64.wrap (Int.tdiv p1 32)))) + 1))) ∧ SV.val (.int .i64 (IntKind.i64.wrap (x2.t6 + 1))) = SV.val (.int .i64 x5.t6) ∧ True) ∧ ((some (⟨142, .dyn (List.set (List.set x2.o17 (0 + Int.toNat (IntKind.i64.wrap (x2.t6 + (IntKind.i64.wrap (Int.tdiv p1 32)))) * 1) (.int .u32 (IntKind.u32.wrap (BitVec.toNat ((BitVec.ofInt IntKind.u32.bits x4) ||| (BitVec.ofInt IntKind.u32.bits (IntKind.u32.wrap (IntKind.u64.wrap ((IntKind.u64.wrap x3) * 2 ^ (min (Int.toNat (IntKind.u64.wrap (Int.tmod p1 32))) (IntKind.bits .u64))))))))))) (0 + Int.toNat (IntKind.i64.wrap ((IntKind.i64.wrap (x2.t6 + (IntKind.i64.wrap (Int.tdiv p1 32)))) + 1)) * 1) (.int .u32 (IntKind.u32.wrap (Int.fdiv (IntKind.u64.wrap ((IntKind.u64.wrap x3) * 2 ^ (min (Int.toNat (IntKind.u64.wrap (Int.tmod p1 32))) (IntKind.bits .u64)))) (2 ^ (min (Int.toNat 32) (IntKind.u64.bits)))))))⟩) : Option OB) = some (⟨142, .dyn x5.o17⟩) ∧ True)) ∧ I_ref1_NatShl_0 () x5 V1 ∧ mu_ref1_NatShl_0 () x5 V1 < mu_ref1_NatShl_0 () x2 V1) ∧
      ((decide ((x2.t6 : Int) < (p0.len : Int))) = false →
        ∀ (b1 : Nat) (V2 : View), View.le V1 V2 → V2 b1 = some (List.toArray x2.o17) →
    CallV Try.prog 142 #[(Sl.mk (some (Addr.mk b1 0 none)) (Int.toNat (IntKind.i64.wrap ((IntKind.i64.wrap ((p0.len : Int) + (IntKind.i64.wrap (Int.tdiv p1 32)))) + 1))) (Int.toNat (IntKind.i64.wrap ((IntKind.i64.wrap ((p0.len : Int) + (IntKind.i64.wrap (Int.tdiv p1 32)))) + 1)))).v] V2 fun v V3 => ∃ r1 : Sl, v = r1.v ∧ -- waveportref01.trim
    R (r1.v) V3))) from ⟨fun h12 => (h.1 h12), fun h12 => ⟨(h.2 h12).1, ⟨⟨(L_ref1_NatShl_0.mk 0 ((List.replicate (Int.toNat (IntKind.i64.wrap ((IntKind.i64.wrap ((p0.len : Int) + (IntKind.i64.wrap (Int.tdiv p1 32)))) + 1))) [Value.int .u32 0]).flatten)), ⟨⟨rfl, rfl, rfl, rfl, trivial⟩, ⟨rfl, trivial⟩⟩, (h.2 h12).2.1⟩, fun x2 V1 h10 h11 => ⟨fun h9 => ⟨(((h.2 h12).2.2 x2 V1 h10 h11).1 h9).1, (match (((h.2 h12).2.2 x2 V1 h10 h11).1 h9).2 with | ⟨x3, h4, h3⟩ => ⟨x3, h4, ⟨h3.1, ⟨h3.2.1, (match h3.2.2 with | ⟨x4, h2, h1⟩ => ⟨x4, h2, ⟨h1.1, ⟨h1.2.1, ⟨h1.2.2.1, ⟨h1.2.2.2.1, ⟨(L_ref1_NatShl_0.mk (IntKind.i64.wrap (x2.t6 + 1)) (List.set (List.set x2.o17 (0 + Int.toNat (IntKind.i64.wrap (x2.t6 + (IntKind.i64.wrap (Int.tdiv p1 32)))) * 1) (.int .u32 (IntKind.u32.wrap (BitVec.toNat ((BitVec.ofInt IntKind.u32.bits x4) ||| (BitVec.ofInt IntKind.u32.bits (IntKind.u32.wrap (IntKind.u64.wrap ((IntKind.u64.wrap x3) * 2 ^ (min (Int.toNat (IntKind.u64.wrap (Int.tmod p1 32))) (IntKind.bits .u64))))))))))) (0 + Int.toNat (IntKind.i64.wrap ((IntKind.i64.wrap (x2.t6 + (IntKind.i64.wrap (Int.tdiv p1 32)))) + 1)) * 1) (.int .u32 (IntKind.u32.wrap (Int.fdiv (IntKind.u64.wrap ((IntKind.u64.wrap x3) * 2 ^ (min (Int.toNat (IntKind.u64.wrap (Int.tmod p1 32))) (IntKind.bits .u64)))) (2 ^ (min (Int.toNat 32) (IntKind.u64.bits)))))))), ⟨⟨rfl, rfl, rfl, rfl, trivial⟩, ⟨rfl, trivial⟩⟩, h1.2.2.2.2.1, h1.2.2.2.2.2⟩⟩⟩⟩⟩⟩)⟩⟩⟩)⟩, fun h9 => (fun b1 V2 h7 h8 => (CallV.mono ((((h.2 h12).2.2 x2 V1 h10 h11).2 h9) b1 V2 h7 h8) (fun _ _ _ ⟨r1, h6, h5⟩ => ⟨r1, h6, h5⟩)))⟩⟩⟩⟩))

structure L_ref1_NatShr_0 where
  t6 : Int
  o18 : List Value
/-- waveport/waveportref01.NatShr -/
theorem ref1_NatShr_vc (p0 : Sl) (p1 : Int) (V : View) (R : Value → View → Prop) (I_ref1_NatShr_0 : Unit → L_ref1_NatShr_0 → View → Prop) (mu_ref1_NatShr_0 : Unit → L_ref1_NatShr_0 → View → Nat)
  (h :
    ((decide (((IntKind.i64.wrap (Int.tdiv p1 32)) : Int) ≥ (p0.len : Int))) = true →
      R ((Sl.mk none 0 0).v) V) ∧
    ((decide (((IntKind.i64.wrap (Int.tdiv p1 32)) : Int) ≥ (p0.len : Int))) = false →
      ((0 : Int) ≤ (IntKind.i64.wrap ((p0.len : Int) - (IntKind.i64.wrap (Int.tdiv p1 32)))) ∧ ((IntKind.i64.wrap ((p0.len : Int) - (IntKind.i64.wrap (Int.tdiv p1 32)))) : Int) ≤ (IntKind.i64.wrap ((p0.len : Int) - (IntKind.i64.wrap (Int.tdiv p1 32)))) ∧ (4 : Int) * (IntKind.i64.wrap ((p0.len : Int) - (IntKind.i64.wrap (Int.tdiv p1 32)))) ≤ 281474976710656 ∧ ((IntKind.i64.wrap ((p0.len : Int) - (IntKind.i64.wrap (Int.tdiv p1 32)))) : Int) ≤ 9223372036854775807) ∧
    I_ref1_NatShr_0 () (L_ref1_NatShr_0.mk 0 ((List.replicate (Int.toNat (IntKind.i64.wrap ((p0.len : Int) - (IntKind.i64.wrap (Int.tdiv p1 32))))) [Value.int .u32 0]).flatten)) V ∧
    (∀ (x2 : L_ref1_NatShr_0) (V1 : View), View.le V V1 → I_ref1_NatShr_0 () x2 V1 →
      ((decide ((x2.t6 : Int) < ((Int.toNat (IntKind.i64.wrap ((p0.len : Int) - (IntKind.i64.wrap (Int.tdiv p1 32)))) : Nat) : Int))) = true →
        ((0 : Int) ≤ (IntKind.i64.wrap (x2.t6 + (IntKind.i64.wrap (Int.tdiv p1 32)))) ∧ ((IntKind.i64.wrap (x2.t6 + (IntKind.i64.wrap (Int.tdiv p1 32)))) : Int) < (p0.len : Nat) ∧ Option.isSome p0.a = true) ∧
      ∃ x3 : Int, View.load V1 (Option.map (fun q => Addr.add q (Int.toNat (IntKind.i64.wrap (x2.t6 + (IntKind.i64.wrap (Int.tdiv p1 32)))) * 1)) p0.a) = some (.int .u32 x3) ∧
      ((decide (((IntKind.i64.wrap ((IntKind.i64.wrap (x2.t6 + (IntKind.i64.wrap (Int.tdiv p1 32)))) + 1)) : Int) < (p0.len : Int))) = true →
        ((0 : Int) ≤ (IntKind.i64.wrap ((IntKind.i64.wrap (x2.t6 + (IntKind.i64.wrap (Int.tdiv p1 32)))) + 1)) ∧ ((IntKind.i64.wrap ((IntKind.i64.wrap (x2.t6 + (IntKind.i64.wrap (Int.tdiv p1 32)))) + 1)) : Int) < (p0.len : Nat) ∧ Option.isSome p0.a = true) ∧
        ∃ x4 : Int, View.load V1 (Option.map (fun q => Addr.add q (Int.toNat (IntKind.i64.wrap ((IntKind.i64.wrap (x2.t6 + (IntKind.i64.wrap (Int.tdiv p1 32)))) + 1)) * 1)) p0.a) = some (.int .u32 x4) ∧
        (0 : Int) ≤ (IntKind.u64.wrap (Int.tmod p1 32)) ∧
      ((0 : Int) ≤ x2.t6 ∧ (x2.t6 : Int) < (Int.toNat (IntKind.i64.wrap ((p0.len : Int) - (IntKind.i64.wrap (Int.tdiv p1 32)))) : Nat)) ∧
      0 + Int.toNat x2.t6 * 1 + 1 ≤ List.length x2.o18 ∧
      I_ref1_NatShr_0 () (L_ref1_NatShr_0.mk (IntKind.i64.wrap (x2.t6 + 1)) (List.set x2.o18 (0 + Int.toNat x2.t6 * 1) (.int .u32 (IntKind.u32.wrap (Int.fdiv (IntKind.u64.wrap (BitVec.toNat ((BitVec.ofInt IntKind.u64.bits (IntKind.u64.wrap x3)) ||| (BitVec.ofInt IntKind.u64.bits (IntKind.u64.wrap ((IntKind.u64.wrap x4) * 2 ^ (min (Int.toNat 32) (IntKind.u64.bits)))))))) (2 ^ (min (Int.toNat (IntKind.u64.wrap (Int.tmod p1 32))) (IntKind.bits .u64)))))))) V1 ∧ mu_ref1_NatShr_0 () (L_ref1_NatShr_0.mk (IntKind.i64.wrap (x2.t6 + 1)) (List.set x2.o18 (0 + Int.toNat x2.t6 * 1) (.int .u32 (IntKind.u32.wrap (Int.fdiv (IntKind.u64.wrap (BitVec.toNat ((BitVec.ofInt IntKind.u64.bits (IntKind.u64.wrap x3)) ||| (BitVec.ofInt IntKind.u64.bits (IntKind.u64.wrap ((IntKind.u64.wrap x4) * 2 ^ (min (Int.toNat 32) (IntKind.u64.bits)))))))) (2 ^ (min (Int.toNat (IntKind.u64.wrap (Int.tmod p1 32))) (IntKind.bits .u64)))))))) V1 < mu_ref1_NatShr_0 () x2 V1) ∧
      ((decide (((IntKind.i64.wrap ((IntKind.i64.wrap (x2.t6 + (IntKind.i64.wrap (Int.tdiv p1 32)))) + 1)) : Int) < (p0.len : Int))) = false →
        (0 : Int) ≤ (IntKind.u64.wrap (Int.tmod p1 32)) ∧
      ((0 : Int) ≤ x2.t6 ∧ (x2.t6 : Int) < (Int.toNat (IntKind.i64.wrap ((p0.len : Int) - (IntKind.i64.wrap (Int.tdiv p1 32)))) : Nat)) ∧
      0 + Int.toNat x2.t6 * 1 + 1 ≤ List.length x2.o18 ∧
      I_ref1_NatShr_0 () (L_ref1_NatShr_0.mk (IntKind.i64.wrap (x2.t6 + 1)) (List.set x2.o18 (0 + Int.toNat x2.t6 * 1) (.int .u32 (IntKind.u32.wrap (Int.fdiv (IntKind.u64.wrap x3) (2 ^ (min (Int.toNat (IntKind.u64.wrap (Int.tmod p1 32))) (IntKind.bits .u64)))))))) V1 ∧ mu_ref1_NatShr_0 () (L_ref1_NatShr_0.mk (IntKind.i64.wrap (x2.t6 + 1)) (List.set x2.o18 (0 + Int.toNat x2.t6 * 1) (.int .u32 (IntKind.u32.wrap (Int.fdiv (IntKind.u64.wrap x3) (2 ^ (min (Int.toNat (IntKind.u64.wrap (Int.tmod p1 32))) (IntKind.bits .u64)))))))) V1 < mu_ref1_NatShr_0 () x2 V1)) ∧
      ((decide ((x2.t6 : Int) < ((Int.toNat (IntKind.i64.wrap ((p0.len : Int) - (IntKind.i64.wrap (Int.tdiv p1 32)))) : Nat) : Int))) = false →
        ∀ (b1 : Nat) (V2 : View), View.le V1 V2 → V2 b1 = some (List.toArray x2.o18) →
    CallV Try.prog 142 #[(Sl.mk (some (Addr.mk b1 0 none)) (Int.toNat (IntKind.i64.wrap ((p0.len : Int) - (IntKind.i64.wrap (Int.tdiv p1 32))))) (Int.toNat (IntKind.i64.wrap ((p0.len : Int) - (IntKind.i64.wrap (Int.tdiv p1 32)))))).v] V2 fun v V3 => ∃ r1 : Sl, v = r1.v ∧ -- waveportref01.trim
    R (r1.v) V3)))) :
  CallV Try.prog 166 #[p0.v, .int .i64 p1] V R :=
  calls_of_vc (Shp := Shp) hmixed Try.func166 (c := Try.f166.body.getD .skip) (args := [p0.v, .int .i64 p1]) (by kernel_rfl)
    (.seq (.reg [⟨4, 2, false⟩]) (.seq (.seq (.reg [⟨8, 2, false⟩, ⟨9, 0, false⟩, ⟨10, 2, false⟩, ⟨11, 0, false⟩, ⟨12, 0, false⟩]) (.cond (.seq (.reg [⟨4, 2, false⟩]) .leaf) .leaf)) (.seq (.reg [⟨13, 2, false⟩, ⟨14, 0, false⟩, ⟨15, 2, false⟩, ⟨16, 0, false⟩, ⟨17, 0, false⟩, ⟨18, 3, false⟩, ⟨5, 2, false⟩]) (.seq (.seq (.reg [⟨6, 2, false⟩]) (.block (.loop Unit L_ref1_NatShr_0 (fun _ => ()) (fun c x => { tm := spT 64 0 [(0, .val (p0.v)), (1, .val (.int .i64 p1)), (5, .osl 18 0 (Int.toNat (IntKind.i64.wrap ((p0.len : Int) - (IntKind.i64.wrap (Int.tdiv p1 32))))) (Int.toNat (IntKind.i64.wrap ((p0.len : Int) - (IntKind.i64.wrap (Int.tdiv p1 32)))))), (6, .val (.int .i64 x.t6))], own := spO 64 0 [(18, ⟨142, .dyn x.o18⟩)] }) I_ref1_NatShr_0 mu_ref1_NatShr_0 (.seq (.seq (.reg [⟨19, 2, false⟩, ⟨20, 2, false⟩, ⟨21, 7, false⟩, ⟨22, 0, false⟩]) (.cond .leaf .leaf)) (.seq (.block (.seq (.reg [⟨25, 2, false⟩, ⟨26, 2, false⟩, ⟨27, 2, false⟩, ⟨28, 0, false⟩, ⟨29, 0, false⟩, ⟨30, 7, false⟩, ⟨31, 5, false⟩, ⟨32, 0, false⟩, ⟨7, 2, false⟩]) (.seq (.seq (.reg [⟨33, 2, false⟩, ⟨34, 2, false⟩, ⟨35, 0, false⟩, ⟨36, 0, false⟩, ⟨37, 0, false⟩, ⟨38, 2, false⟩, ⟨39, 0, false⟩, ⟨40, 0, false⟩]) (.cond (.reg [⟨41, 2, false⟩, ⟨42, 2, false⟩, ⟨43, 2, false⟩, ⟨44, 2, false⟩, ⟨45, 0, false⟩, ⟨46, 0, false⟩, ⟨47, 0, false⟩, ⟨48, 7, false⟩, ⟨49, 5, false⟩, ⟨50, 0, false⟩, ⟨51, 0, false⟩, ⟨52, 0, false⟩, ⟨7, 2, false⟩]) .leaf)) (.reg [⟨53, 2, false⟩, ⟨54, 2, false⟩, ⟨55, 2, false⟩, ⟨56, 2, false⟩, ⟨57, 0, false⟩, ⟨58, 0, false⟩, ⟨59, 12, false⟩, ⟨60, 0, false⟩, ⟨61, 7, false⟩, ⟨18, 6, false⟩])))) (.reg [⟨23, 2, false⟩, ⟨24, 0, false⟩, ⟨6, 2, false⟩])))))) (.seq (.pub 18 (.reg [⟨62, 2, false⟩, ⟨63, 10, false⟩, ⟨4, 2, false⟩])) .leaf)))))
    (Eq.mpr (by kernel_rfl) (show ((decide (((IntKind.i64.wrap (Int.tdiv p1 32)) : Int) ≥ (p0.len : Int))) = true →
      R ((Sl.mk none 0 0).v) V) ∧
    ((decide (((IntKind.i64.wrap (Int.tdiv p1 32)) : Int) ≥ (p0.len : Int))) = false →
      ((0 : Int) ≤ (IntKind.i64.wrap ((p0.len : Int) - (IntKind.i64.wrap (Int.tdiv p1 32)))) ∧ ((IntKind.i64.wrap ((p0.len : Int) - (IntKind.i64.wrap (Int.tdiv p1 32)))) : Int) ≤ (IntKind.i64.wrap ((p0.len : Int) - (IntKind.i64.wrap (Int.tdiv p1 32)))) ∧ (4 : Int) * (IntKind.i64.wrap ((p0.len : Int) - (IntKind.i64.wrap (Int.tdiv p1 32)))) ≤ 281474976710656 ∧ ((IntKind.i64.wrap ((p0.len : Int) - (IntKind.i64.wrap (Int.tdiv p1 32)))) : Int) ≤ 9223372036854775807) ∧
    (∃ x1 : L_ref1_NatShr_0, ((SV.val (p0.v) = SV.val (p0.v) ∧ SV.val (.int .i64 p1) = SV.val (.int .i64 p1) ∧ SV.osl 18 0 (Int.toNat (IntKind.i64.wrap ((p0.len : Int) - (IntKind.i64.wrap (Int.tdiv p1 32))))) (Int.toNat (IntKind.i64.wrap ((p0.len : Int) - (IntKind.i64.wrap (Int.tdiv p1 32))))) = SV.osl 18 0 (Int.toNat (IntKind.i64.wrap ((p0.len : Int) - (IntKind.i64.wrap (Int.tdiv p1 32))))) (Int.toNat (IntKind.i64.wrap ((p0.len : Int) - (IntKind.i64.wrap (Int.tdiv p1 32))))) ∧ SV.val (.int .i64 0) = SV.val (.int .i64 x1.t6) ∧ True) ∧ ((some (⟨142, .dyn ((List.replicate (Int.toNat (IntKind.i64.wrap ((p0.len : Int) - (IntKind.i64.wrap (Int.tdiv p1 32))))) [Value.int .u32 0]).flatten)⟩) : Option OB) = some (⟨142, .dyn x1.o18⟩) ∧ True)) ∧ I_ref1_NatShr_0 () x1 V) ∧
    (∀ (x2 : L_ref1_NatShr_0) (V1 : View), View.le V V1 → I_ref1_NatShr_0 () x2 V1 →
      ((decide ((x2.t6 : Int) < ((Int.toNat (IntKind.i64.wrap ((p0.len : Int) - (IntKind.i64.wrap (Int.tdiv p1 32)))) : Nat) : Int))) = true →
        ((0 : Int) ≤ (IntKind.i64.wrap (x2.t6 + (IntKind.i64.wrap (Int.tdiv p1 32)))) ∧ ((IntKind.i64.wrap (x2.t6 + (IntKind.i64.wrap (Int.tdiv p1 32)))) : Int) < (p0.len : Nat) ∧ Option.isSome p0.a = true) ∧
      ∃ x3 : Int, View.load V1 (Option.map (fun q => Addr.add q (Int.toNat (IntKind.i64.wrap (x2.t6 + (IntKind.i64.wrap (Int.tdiv p1 32)))) * 1)) p0.a) = some (.int .u32 x3) ∧
      ((decide (((IntKind.i64.wrap ((IntKind.i64.wrap (x2.t6 + (IntKind.i64.wrap (Int.tdiv p1 32)))) + 1)) : Int) < (p0.len : Int))) = true →
        ((0 : Int) ≤ (IntKind.i64.wrap ((IntKind.i64.wrap (x2.t6 + (IntKind.i64.wrap (Int.tdiv p1 32)))) + 1)) ∧ ((IntKind.i64.wrap ((IntKind.i64.wrap (x2.t6 + (IntKind.i64.wrap (Int.tdiv p1 32)))) + 1)) : Int) < (p0.len : Nat) ∧ Option.isSome p0.a = true) ∧
        ∃ x4 : Int, View.load V1 (Option.map (fun q => Addr.add q (Int.toNat (IntKind.i64.wrap ((IntKind.i64.wrap (x2.t6 + (IntKind.i64.wrap (Int.tdiv p1 32)))) + 1)) * 1)) p0.a) = some (.int .u32 x4) ∧
        (0 : Int) ≤ (IntKind.u64.wrap (Int.tmod p1 32)) ∧
      ((0 : Int) ≤ x2.t6 ∧ (x2.t6 : Int) < (Int.toNat (IntKind.i64.wrap ((p0.len : Int) - (IntKind.i64.wrap (Int.tdiv p1 32)))) : Nat)) ∧
      0 + Int.toNat x2.t6 * 1 + 1 ≤ List.length x2.o18 ∧
      ∃ x5 : L_ref1_NatShr_0, ((SV.val (p0.v) = SV.val (p0.v) ∧ SV.val (.int .i64 p1) = SV.val (.int .i64 p1) ∧ SV.osl 18 0 (Int.toNat (IntKind.i64.wrap ((p0.len : Int) - (IntKind.i64.wrap (Int.tdiv p1 32))))) (Int.toNat (IntKind.i64.wrap ((p0.len : Int) - (IntKind.i64.wrap (Int.tdiv p1 32))))) = SV.osl 18 0 (Int.toNat (IntKind.i64.wrap ((p0.len : Int) - (IntKind.i64.wrap (Int.tdiv p1 32))))) (Int.toNat (IntKind.i64.wrap ((p0.len : Int) - (IntKind.i64.wrap (Int.tdiv p1 32))))) ∧ SV.val (.int .i64 (IntKind.i64.wrap (x2.t6 + 1))) = SV.val (.int .i64 x5.t6) ∧ True) ∧ ((some (⟨142, .dyn (List.set x2.o18 (0 + Int.toNat x2.t6 * 1) (.int .u32 (IntKind.u32.wrap (Int.fdiv (IntKind.u64.wrap (BitVec.toNat ((BitVec.ofInt IntKind.u64.bits (IntKind.u64.wrap x3)) ||| (BitVec.ofInt IntKind.u64.bits (IntKind.u64.wrap ((IntKind.u64.wrap x4) * 2 ^ (min (Int.toNat 32) (IntKind.u64.bits)))))))) (2 ^ (min (Int.toNat (IntKind.u64.wrap (Int.tmod p1 32))) (IntKind.bits .u64)))))))⟩) : Option OB) = some (⟨142, .dyn x5.o18⟩) ∧ True)) ∧ I_ref1_NatShr_0 () x5 V1 ∧ mu_ref1_NatShr_0 () x5 V1 < mu_ref1_NatShr_0 () x2 V1) ∧
      ((decide (((IntKind.i64.wrap ((IntKind.i64.wrap (x2.t6 + (IntKind.i64.wrap (Int.tdiv p1 32)))) + 1)) : Int) < (p0.len : Int))) = false →
        (0 : Int) ≤ (IntKind.u64.wrap (Int.tmod p1 32)) ∧
      ((0 : Int) ≤ x2.t6 ∧ (x2.t6 : Int) < (Int.toNat (IntKind.i64.wrap ((p0.len : Int) - (IntKind.i64.wrap (Int.tdiv p1 32)))) : Nat)) ∧
      0 + Int.toNat x2.t6 * 1 + 1 ≤ List.length x2.o18 ∧
      ∃ x6 : L_ref1_NatShr_0, ((SV.val (p0.v) = SV.val (p0.v) ∧ SV.val (.int .i64 p1) = SV.val (.int .i64 p1) ∧ SV.osl 18 0 (Int.toNat (IntKind.i64.wrap ((p0.len : Int) - (IntKind.i64.wrap (Int.tdiv p1 32))))) (Int.toNat (IntKind.i64.wrap ((p0.len : Int) - (IntKind.i64.wrap (Int.tdiv p1 32))))) = SV.osl 18 0 (Int.toNat (IntKind.i64.wrap ((p0.len : Int) - (IntKind.i64.wrap (Int.tdiv p1 32))))) (Int.toNat (IntKind.i64.wrap ((p0.len : Int) - (IntKind.i64.wrap (Int.tdiv p1 32))))) ∧ SV.val (.int .i64 (IntKind.i64.wrap (x2.t6 + 1))) = SV.val (.int .i64 x6.t6) ∧ True) ∧ ((some (⟨142, .dyn (List.set x2.o18 (0 + Int.toNat x2.t6 * 1) (.int .u32 (IntKind.u32.wrap (Int.fdiv (IntKind.u64.wrap x3) (2 ^ (min (Int.toNat (IntKind.u64.wrap (Int.tmod p1 32))) (IntKind.bits .u64)))))))⟩) : Option OB) = some (⟨142, .dyn x6.o18⟩) ∧ True)) ∧ I_ref1_NatShr_0 () x6 V1 ∧ mu_ref1_NatShr_0 () x6 V1 < mu_ref1_NatShr_0 () x2 V1)) ∧
      ((decide ((x2.t6 : Int) < ((Int.toNat (IntKind.i64.wrap ((p0.len : Int) - (IntKind.i64.wrap (Int.tdiv p1 32)))) : Nat) : Int))) = false →
        ∀ (b1 : Nat) (V2 : View), View.le V1 V2 → V2 b1 = some (List.toArray x2.o18) →
    CallV Try.prog 142 #[(Sl.mk (some (Addr.mk b1 0 none)) (Int.toNat (IntKind.i64.wrap ((p0.len : Int) - (IntKind.i64.wrap (Int.tdiv p1 32))))) (Int.toNat (IntKind.i64.wrap ((p0.len : Int) - (IntKind.i64.wrap (Int.tdiv p1 32)))))).v] V2 fun v V3 => ∃ r1 : Sl, v = r1.v ∧ -- waveportref01.trim
    R (r1.v) V3))) from ⟨fun h13 => (h.1 h13), fun h13 => ⟨(h.2 h13).1, ⟨⟨(L_ref1_NatShr_0.mk 0 ((List.replicate (Int.toNat (IntKind.i64.wrap ((p0.len : Int) - (IntKind.i64.wrap (Int.tdiv p1 32))))) [Value.int .u32 0]).flatten)), ⟨⟨rfl, rfl, rfl, rfl, trivial⟩, ⟨rfl, trivial⟩⟩, (h.2 h13).2.1⟩, fun x2 V1 h11 h12 => ⟨fun h10 => ⟨(((h.2 h13).2.2 x2 V1 h11 h12).1 h10).1, (match (((h.2 h13).2.2 x2 V1 h11 h12).1 h10).2 with | ⟨x3, h5, h4⟩ => ⟨x3, h5, ⟨fun h3 => ⟨(h4.1 h3).1, (match (h4.1 h3).2 with | ⟨x4, h2, h1⟩ => ⟨x4, h2, ⟨h1.1, ⟨h1.2.1, ⟨h1.2.2.1, ⟨(L_ref1_NatShr_0.mk (IntKind.i64.wrap (x2.t6 + 1)) (List.set x2.o18 (0 + Int.toNat x2.t6 * 1) (.int .u32 (IntKind.u32.wrap (Int.fdiv (IntKind.u64.wrap (BitVec.toNat ((BitVec.ofInt IntKind.u64.bits (IntKind.u64.wrap x3)) ||| (BitVec.ofInt IntKind.u64.bits (IntKind.u64.wrap ((IntKind.u64.wrap x4) * 2 ^ (min (Int.toNat 32) (IntKind.u64.bits)))))))) (2 ^ (min (Int.toNat (IntKind.u64.wrap (Int.tmod p1 32))) (IntKind.bits .u64)))))))), ⟨⟨rfl, rfl, rfl, rfl, trivial⟩, ⟨rfl, trivial⟩⟩, h1.2.2.2.1, h1.2.2.2.2⟩⟩⟩⟩⟩)⟩, fun h3 => ⟨(h4.2 h3).1, ⟨(h4.2 h3).2.1, ⟨(h4.2 h3).2.2.1, ⟨(L_ref1_NatShr_0.mk (IntKind.i64.wrap (x2.t6 + 1)) (List.set x2.o18 (0 + Int.toNat x2.t6 * 1) (.int .u32 (IntKind.u32.wrap (Int.fdiv (IntKind.u64.wrap x3) (2 ^ (min (Int.toNat (IntKind.u64.wrap (Int.tmod p1 32))) (IntKind.bits .u64)))))))), ⟨⟨rfl, rfl, rfl, rfl, trivial⟩, ⟨rfl, trivial⟩⟩, (h4.2 h3).2.2.2.1, (h4.2 h3).2.2.2.2⟩⟩⟩⟩⟩⟩)⟩, fun h10 => (fun b1 V2 h8 h9 => (CallV.mono ((((h.2 h13).2.2 x2 V1 h11 h12).2 h10) b1 V2 h8 h9) (fun _ _ _ ⟨r1, h7, h6⟩ => ⟨r1, h7, h6⟩)))⟩⟩⟩⟩))

end Go.Proofs.Ytcapadojlaojkaa
