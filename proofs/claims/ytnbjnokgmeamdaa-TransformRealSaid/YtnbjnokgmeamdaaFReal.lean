/- Made by a program of this repo (gen.py): what each function asks of the functions that it calls. -/
import Derived.Test.YtnbjnokgmeamdaaP
set_option maxRecDepth 100000
set_option maxHeartbeats 4000000
namespace Go.Proofs.Ytnbjnokgmeamdaa
open Go Go.Vc Go.Proofs

structure L_transform_Extend_num_Num__0 where
  u : Unit
structure L_transform_Extend_num_Num__1 where
  t8 : Int
  o22 : List Value
/-- waveport/transform.Extend[waveport/num.Num] -/
theorem transform_Extend_num_Num__vc (p0 : Sl) (p1 : NumV) (V : View) (R : Value → View → Prop) (I_transform_Extend_num_Num__0 : Unit → L_transform_Extend_num_Num__0 → View → Prop) (I_transform_Extend_num_Num__1 : Unit → L_transform_Extend_num_Num__1 → View → Prop) (mu_transform_Extend_num_Num__1 : Unit → L_transform_Extend_num_Num__1 → View → Nat)
  (h :
    (((decide (((IntKind.i64.wrap ((p0.len : Int) + 1)) : Int) > 64)) = true →
      (true = true →
        R (.tuple #[(Sl.mk none 0 0).v, .int .i64 4]) V) ∧
      (true = false →
        I_transform_Extend_num_Num__0 () (L_transform_Extend_num_Num__0.mk ()) V)) ∧
      ((decide (((IntKind.i64.wrap ((p0.len : Int) + 1)) : Int) > 64)) = false →
      CallV Try.prog 66 #[.int .i64 (IntKind.i64.wrap (2 * (IntKind.i64.wrap ((p0.len : Int) + 1))))] V fun v V2 => ∃ r1 : Bool, v = .bool r1 ∧ -- transform.length
      ((!r1) = true →
        R (.tuple #[(Sl.mk none 0 0).v, .int .i64 4]) V2) ∧
      ((!r1) = false →
        I_transform_Extend_num_Num__0 () (L_transform_Extend_num_Num__0.mk ()) V2))) ∧
    (∀ (x1 : L_transform_Extend_num_Num__0) (V1 : View), View.le V V1 → I_transform_Extend_num_Num__0 () x1 V1 →
      ((0 : Int) ≤ (IntKind.i64.wrap (2 * (IntKind.i64.wrap ((p0.len : Int) + 1)))) ∧ ((IntKind.i64.wrap (2 * (IntKind.i64.wrap ((p0.len : Int) + 1)))) : Int) ≤ (IntKind.i64.wrap (2 * (IntKind.i64.wrap ((p0.len : Int) + 1)))) ∧ (88 : Int) * (IntKind.i64.wrap (2 * (IntKind.i64.wrap ((p0.len : Int) + 1)))) ≤ 281474976710656 ∧ ((IntKind.i64.wrap (2 * (IntKind.i64.wrap ((p0.len : Int) + 1)))) : Int) ≤ 9223372036854775807) ∧
      CallV Try.prog 59 #[.int .i64 0, .int .i64 1] V1 fun v V3 => ∃ r2 : NumV, v = r2.val ∧ -- transform.of[num.Num]
      ((0 : Int) ≤ 0 ∧ (0 : Int) < (Int.toNat (IntKind.i64.wrap (2 * (IntKind.i64.wrap ((p0.len : Int) + 1)))) : Nat)) ∧
      0 + Int.toNat 0 * 5 + 5 ≤ List.length ((List.replicate (Int.toNat (IntKind.i64.wrap (2 * (IntKind.i64.wrap ((p0.len : Int) + 1))))) [Value.bool false, Value.slice none 0 0, Value.bool false, Value.slice none 0 0, Value.slice none 0 0]).flatten) ∧
      ((0 : Int) ≤ (IntKind.i64.wrap ((p0.len : Int) + 1)) ∧ ((IntKind.i64.wrap ((p0.len : Int) + 1)) : Int) < (Int.toNat (IntKind.i64.wrap (2 * (IntKind.i64.wrap ((p0.len : Int) + 1)))) : Nat)) ∧
      0 + Int.toNat (IntKind.i64.wrap ((p0.len : Int) + 1)) * 5 + 5 ≤ List.length (setL ((List.replicate (Int.toNat (IntKind.i64.wrap (2 * (IntKind.i64.wrap ((p0.len : Int) + 1))))) [Value.bool false, Value.slice none 0 0, Value.bool false, Value.slice none 0 0, Value.slice none 0 0]).flatten) (0 + Int.toNat 0 * 5) [.bool p1.re.neg, p1.re.mag.v, .bool p1.im.neg, p1.im.mag.v, p1.under.v]) ∧
      I_transform_Extend_num_Num__1 () (L_transform_Extend_num_Num__1.mk 1 (setL (setL ((List.replicate (Int.toNat (IntKind.i64.wrap (2 * (IntKind.i64.wrap ((p0.len : Int) + 1))))) [Value.bool false, Value.slice none 0 0, Value.bool false, Value.slice none 0 0, Value.slice none 0 0]).flatten) (0 + Int.toNat 0 * 5) [.bool p1.re.neg, p1.re.mag.v, .bool p1.im.neg, p1.im.mag.v, p1.under.v]) (0 + Int.toNat (IntKind.i64.wrap ((p0.len : Int) + 1)) * 5) [.bool r2.re.neg, r2.re.mag.v, .bool r2.im.neg, r2.im.mag.v, r2.under.v])) V3 ∧
      (∀ (x5 : L_transform_Extend_num_Num__1) (V4 : View), View.le V3 V4 → I_transform_Extend_num_Num__1 () x5 V4 →
        ((decide ((x5.t8 : Int) < (IntKind.i64.wrap ((p0.len : Int) + 1)))) = true →
          ((0 : Int) ≤ (IntKind.i64.wrap (x5.t8 - 1)) ∧ ((IntKind.i64.wrap (x5.t8 - 1)) : Int) < (p0.len : Nat) ∧ Option.isSome p0.a = true) ∧
        ∃ x6 : NumV, View.has V4 (Option.map (fun q => Addr.add q (Int.toNat (IntKind.i64.wrap (x5.t8 - 1)) * 5)) p0.a) (x6.val).cells.toList ∧ Option.isSome (Option.map (fun q => Addr.add q (Int.toNat (IntKind.i64.wrap (x5.t8 - 1)) * 5)) p0.a) = true ∧
        ((0 : Int) ≤ (IntKind.i64.wrap (x5.t8 - 1)) ∧ ((IntKind.i64.wrap (x5.t8 - 1)) : Int) < (p0.len : Nat) ∧ Option.isSome p0.a = true) ∧
        ∃ x7 : NumV, View.has V4 (Option.map (fun q => Addr.add q (Int.toNat (IntKind.i64.wrap (x5.t8 - 1)) * 5)) p0.a) (x7.val).cells.toList ∧ Option.isSome (Option.map (fun q => Addr.add q (Int.toNat (IntKind.i64.wrap (x5.t8 - 1)) * 5)) p0.a) = true ∧
        CallV Try.prog 119 #[x7.val] V4 fun v V5 => ∃ r3 : NumV, v = r3.val ∧ -- (num.Num).Conj
        ((0 : Int) ≤ x5.t8 ∧ (x5.t8 : Int) < (Int.toNat (IntKind.i64.wrap (2 * (IntKind.i64.wrap ((p0.len : Int) + 1)))) : Nat)) ∧
        0 + Int.toNat x5.t8 * 5 + 5 ≤ List.length x5.o22 ∧
        ((0 : Int) ≤ (IntKind.i64.wrap ((IntKind.i64.wrap (2 * (IntKind.i64.wrap ((p0.len : Int) + 1)))) - x5.t8)) ∧ ((IntKind.i64.wrap ((IntKind.i64.wrap (2 * (IntKind.i64.wrap ((p0.len : Int) + 1)))) - x5.t8)) : Int) < (Int.toNat (IntKind.i64.wrap (2 * (IntKind.i64.wrap ((p0.len : Int) + 1)))) : Nat)) ∧
        0 + Int.toNat (IntKind.i64.wrap ((IntKind.i64.wrap (2 * (IntKind.i64.wrap ((p0.len : Int) + 1)))) - x5.t8)) * 5 + 5 ≤ List.length (setL x5.o22 (0 + Int.toNat x5.t8 * 5) [.bool x6.re.neg, x6.re.mag.v, .bool x6.im.neg, x6.im.mag.v, x6.under.v]) ∧
        I_transform_Extend_num_Num__1 () (L_transform_Extend_num_Num__1.mk (IntKind.i64.wrap (x5.t8 + 1)) (setL (setL x5.o22 (0 + Int.toNat x5.t8 * 5) [.bool x6.re.neg, x6.re.mag.v, .bool x6.im.neg, x6.im.mag.v, x6.under.v]) (0 + Int.toNat (IntKind.i64.wrap ((IntKind.i64.wrap (2 * (IntKind.i64.wrap ((p0.len : Int) + 1)))) - x5.t8)) * 5) [.bool r3.re.neg, r3.re.mag.v, .bool r3.im.neg, r3.im.mag.v, r3.under.v])) V5 ∧ mu_transform_Extend_num_Num__1 () (L_transform_Extend_num_Num__1.mk (IntKind.i64.wrap (x5.t8 + 1)) (setL (setL x5.o22 (0 + Int.toNat x5.t8 * 5) [.bool x6.re.neg, x6.re.mag.v, .bool x6.im.neg, x6.im.mag.v, x6.under.v]) (0 + Int.toNat (IntKind.i64.wrap ((IntKind.i64.wrap (2 * (IntKind.i64.wrap ((p0.len : Int) + 1)))) - x5.t8)) * 5) [.bool r3.re.neg, r3.re.mag.v, .bool r3.im.neg, r3.im.mag.v, r3.under.v])) V5 < mu_transform_Extend_num_Num__1 () x5 V4) ∧
        ((decide ((x5.t8 : Int) < (IntKind.i64.wrap ((p0.len : Int) + 1)))) = false →
          ∀ (b1 : Nat) (V6 : View), View.le V4 V6 → V6 b1 = some (List.toArray x5.o22) →
      R (.tuple #[(Sl.mk (some (Addr.mk b1 0 none)) (Int.toNat (IntKind.i64.wrap (2 * (IntKind.i64.wrap ((p0.len : Int) + 1))))) (Int.toNat (IntKind.i64.wrap (2 * (IntKind.i64.wrap ((p0.len : Int) + 1)))))).v, .int .i64 0]) V6)))) :
  CallV Try.prog 32 #[p0.v, p1.val] V R :=
  calls_of_vc (Shp := Shp) hmixed Try.func32 (c := Try.f32.body.getD .skip) (args := [p0.v, p1.val]) (by kernel_rfl)
    (.seq (.reg [⟨3, 3, false⟩, ⟨4, 2, false⟩, ⟨5, 2, false⟩]) (.seq (.reg [⟨9, 2, false⟩, ⟨10, 0, false⟩, ⟨11, 0, false⟩, ⟨6, 2, false⟩]) (.cut Unit L_transform_Extend_num_Num__0 (fun _ => ()) (fun c x => { tm := spT 57 0 [(0, .val (p0.v)), (3, .own 3 0), (6, .val (.int .i64 (IntKind.i64.wrap ((p0.len : Int) + 1))))], own := spO 57 0 [(3, ⟨31, .fixed [.val (.bool p1.re.neg), .val (p1.re.mag.v), .val (.bool p1.im.neg), .val (p1.im.mag.v), .val (p1.under.v)]⟩)] }) I_transform_Extend_num_Num__0 (.seq (.reg [⟨12, 2, false⟩, ⟨13, 0, false⟩, ⟨14, 2, true⟩, ⟨15, 2, false⟩, ⟨16, 0, false⟩, ⟨17, 10, false⟩, ⟨18, 0, false⟩, ⟨19, 2, false⟩]) (.cond (.seq (.reg [⟨4, 2, false⟩, ⟨5, 2, false⟩]) .leaf) .leaf)) (.seq (.reg [⟨20, 2, false⟩, ⟨21, 0, false⟩, ⟨22, 3, false⟩, ⟨7, 2, false⟩]) (.seq (.draw [(0, ⟨23, 2, false⟩), (1, ⟨24, 2, false⟩), (2, ⟨25, 2, false⟩), (3, ⟨3, 4, false⟩), (4, ⟨27, 10, false⟩), (5, ⟨28, 7, false⟩), (6, ⟨22, 6, false⟩), (7, ⟨29, 7, false⟩), (8, ⟨22, 6, false⟩)] [0, 0, 0, 0, 0, 25, 57, 127, 255]) (.seq (.seq (.reg [⟨8, 2, false⟩]) (.block (.loop Unit L_transform_Extend_num_Num__1 (fun _ => ()) (fun c x => { tm := spT 57 0 [(0, .val (p0.v)), (6, .val (.int .i64 (IntKind.i64.wrap ((p0.len : Int) + 1)))), (7, .osl 22 0 (Int.toNat (IntKind.i64.wrap (2 * (IntKind.i64.wrap ((p0.len : Int) + 1))))) (Int.toNat (IntKind.i64.wrap (2 * (IntKind.i64.wrap ((p0.len : Int) + 1)))))), (8, .val (.int .i64 x.t8))], own := spO 57 0 [(22, ⟨31, .dyn x.o22⟩)] }) I_transform_Extend_num_Num__1 mu_transform_Extend_num_Num__1 (.seq (.seq (.reg [⟨30, 2, false⟩, ⟨31, 2, false⟩, ⟨32, 0, false⟩]) (.cond .leaf .leaf)) (.seq (.block (.draw [(0, ⟨35, 2, false⟩), (1, ⟨36, 2, false⟩), (2, ⟨37, 2, false⟩), (3, ⟨38, 2, false⟩), (4, ⟨39, 0, false⟩), (5, ⟨40, 2, false⟩), (6, ⟨41, 0, false⟩), (7, ⟨42, 2, false⟩), (8, ⟨43, 2, false⟩), (9, ⟨44, 0, false⟩), (10, ⟨45, 7, false⟩), (11, ⟨46, 5, false⟩), (12, ⟨47, 2, false⟩), (13, ⟨48, 2, false⟩), (14, ⟨49, 0, false⟩), (15, ⟨50, 7, false⟩), (16, ⟨51, 5, false⟩), (17, ⟨52, 0, false⟩), (18, ⟨53, 10, false⟩), (19, ⟨54, 7, false⟩), (20, ⟨22, 6, false⟩), (21, ⟨55, 7, false⟩), (22, ⟨22, 6, false⟩)] [0, 0, 0, 0, 8, 0, 56, 0, 0, 256, 896, 1920, 0, 0, 8192, 28672, 61440, 126976, 258048, 524163, 1048451, 2097151, 4194303])) (.reg [⟨33, 2, false⟩, ⟨34, 0, false⟩, ⟨8, 2, false⟩])))))) (.seq (.reg [⟨56, 2, false⟩, ⟨4, 2, false⟩, ⟨5, 2, false⟩]) (.pub 22 .leaf))))))))
    (Eq.mpr (by kernel_rfl) (show (((decide (((IntKind.i64.wrap ((p0.len : Int) + 1)) : Int) > 64)) = true →
      (true = true →
        R (.tuple #[(Sl.mk none 0 0).v, .int .i64 4]) V) ∧
      (true = false →
        ∃ x2 : L_transform_Extend_num_Num__0, ((SV.val (p0.v) = SV.val (p0.v) ∧ SV.own 3 0 = SV.own 3 0 ∧ SV.val (.int .i64 (IntKind.i64.wrap ((p0.len : Int) + 1))) = SV.val (.int .i64 (IntKind.i64.wrap ((p0.len : Int) + 1))) ∧ True) ∧ ((some (⟨31, .fixed [.val (.bool p1.re.neg), .val (p1.re.mag.v), .val (.bool p1.im.neg), .val (p1.im.mag.v), .val (p1.under.v)]⟩) : Option OB) = some (⟨31, .fixed [.val (.bool p1.re.neg), .val (p1.re.mag.v), .val (.bool p1.im.neg), .val (p1.im.mag.v), .val (p1.under.v)]⟩) ∧ True)) ∧ I_transform_Extend_num_Num__0 () x2 V)) ∧
      ((decide (((IntKind.i64.wrap ((p0.len : Int) + 1)) : Int) > 64)) = false →
      CallV Try.prog 66 #[.int .i64 (IntKind.i64.wrap (2 * (IntKind.i64.wrap ((p0.len : Int) + 1))))] V fun v V2 => ∃ r1 : Bool, v = .bool r1 ∧ -- transform.length
      ((!r1) = true →
        R (.tuple #[(Sl.mk none 0 0).v, .int .i64 4]) V2) ∧
      ((!r1) = false →
        ∃ x3 : L_transform_Extend_num_Num__0, ((SV.val (p0.v) = SV.val (p0.v) ∧ SV.own 3 0 = SV.own 3 0 ∧ SV.val (.int .i64 (IntKind.i64.wrap ((p0.len : Int) + 1))) = SV.val (.int .i64 (IntKind.i64.wrap ((p0.len : Int) + 1))) ∧ True) ∧ ((some (⟨31, .fixed [.val (.bool p1.re.neg), .val (p1.re.mag.v), .val (.bool p1.im.neg), .val (p1.im.mag.v), .val (p1.under.v)]⟩) : Option OB) = some (⟨31, .fixed [.val (.bool p1.re.neg), .val (p1.re.mag.v), .val (.bool p1.im.neg), .val (p1.im.mag.v), .val (p1.under.v)]⟩) ∧ True)) ∧ I_transform_Extend_num_Num__0 () x3 V2))) ∧
    (∀ (x1 : L_transform_Extend_num_Num__0) (V1 : View), View.le V V1 → I_transform_Extend_num_Num__0 () x1 V1 →
      ((0 : Int) ≤ (IntKind.i64.wrap (2 * (IntKind.i64.wrap ((p0.len : Int) + 1)))) ∧ ((IntKind.i64.wrap (2 * (IntKind.i64.wrap ((p0.len : Int) + 1)))) : Int) ≤ (IntKind.i64.wrap (2 * (IntKind.i64.wrap ((p0.len : Int) + 1)))) ∧ (88 : Int) * (IntKind.i64.wrap (2 * (IntKind.i64.wrap ((p0.len : Int) + 1)))) ≤ 281474976710656 ∧ ((IntKind.i64.wrap (2 * (IntKind.i64.wrap ((p0.len : Int) + 1)))) : Int) ≤ 9223372036854775807) ∧
      CallV Try.prog 59 #[.int .i64 0, .int .i64 1] V1 fun v V3 => ∃ r2 : NumV, v = r2.val ∧ -- transform.of[num.Num]
      ((0 : Int) ≤ 0 ∧ (0 : Int) < (Int.toNat (IntKind.i64.wrap (2 * (IntKind.i64.wrap ((p0.len : Int) + 1)))) : Nat)) ∧
      0 + Int.toNat 0 * 5 + 5 ≤ List.length ((List.replicate (Int.toNat (IntKind.i64.wrap (2 * (IntKind.i64.wrap ((p0.len : Int) + 1))))) [Value.bool false, Value.slice none 0 0, Value.bool false, Value.slice none 0 0, Value.slice none 0 0]).flatten) ∧
      ((0 : Int) ≤ (IntKind.i64.wrap ((p0.len : Int) + 1)) ∧ ((IntKind.i64.wrap ((p0.len : Int) + 1)) : Int) < (Int.toNat (IntKind.i64.wrap (2 * (IntKind.i64.wrap ((p0.len : Int) + 1)))) : Nat)) ∧
      0 + Int.toNat (IntKind.i64.wrap ((p0.len : Int) + 1)) * 5 + 5 ≤ List.length (setL ((List.replicate (Int.toNat (IntKind.i64.wrap (2 * (IntKind.i64.wrap ((p0.len : Int) + 1))))) [Value.bool false, Value.slice none 0 0, Value.bool false, Value.slice none 0 0, Value.slice none 0 0]).flatten) (0 + Int.toNat 0 * 5) [.bool p1.re.neg, p1.re.mag.v, .bool p1.im.neg, p1.im.mag.v, p1.under.v]) ∧
      (∃ x4 : L_transform_Extend_num_Num__1, ((SV.val (p0.v) = SV.val (p0.v) ∧ SV.val (.int .i64 (IntKind.i64.wrap ((p0.len : Int) + 1))) = SV.val (.int .i64 (IntKind.i64.wrap ((p0.len : Int) + 1))) ∧ SV.osl 22 0 (Int.toNat (IntKind.i64.wrap (2 * (IntKind.i64.wrap ((p0.len : Int) + 1))))) (Int.toNat (IntKind.i64.wrap (2 * (IntKind.i64.wrap ((p0.len : Int) + 1))))) = SV.osl 22 0 (Int.toNat (IntKind.i64.wrap (2 * (IntKind.i64.wrap ((p0.len : Int) + 1))))) (Int.toNat (IntKind.i64.wrap (2 * (IntKind.i64.wrap ((p0.len : Int) + 1))))) ∧ SV.val (.int .i64 1) = SV.val (.int .i64 x4.t8) ∧ True) ∧ ((some (⟨31, .dyn (setL (setL ((List.replicate (Int.toNat (IntKind.i64.wrap (2 * (IntKind.i64.wrap ((p0.len : Int) + 1))))) [Value.bool false, Value.slice none 0 0, Value.bool false, Value.slice none 0 0, Value.slice none 0 0]).flatten) (0 + Int.toNat 0 * 5) [.bool p1.re.neg, p1.re.mag.v, .bool p1.im.neg, p1.im.mag.v, p1.under.v]) (0 + Int.toNat (IntKind.i64.wrap ((p0.len : Int) + 1)) * 5) [.bool r2.re.neg, r2.re.mag.v, .bool r2.im.neg, r2.im.mag.v, r2.under.v])⟩) : Option OB) = some (⟨31, .dyn x4.o22⟩) ∧ True)) ∧ I_transform_Extend_num_Num__1 () x4 V3) ∧
      (∀ (x5 : L_transform_Extend_num_Num__1) (V4 : View), View.le V3 V4 → I_transform_Extend_num_Num__1 () x5 V4 →
        ((decide ((x5.t8 : Int) < (IntKind.i64.wrap ((p0.len : Int) + 1)))) = true →
          ((0 : Int) ≤ (IntKind.i64.wrap (x5.t8 - 1)) ∧ ((IntKind.i64.wrap (x5.t8 - 1)) : Int) < (p0.len : Nat) ∧ Option.isSome p0.a = true) ∧
        ∃ x6 : NumV, View.has V4 (Option.map (fun q => Addr.add q (Int.toNat (IntKind.i64.wrap (x5.t8 - 1)) * 5)) p0.a) (x6.val).cells.toList ∧ Option.isSome (Option.map (fun q => Addr.add q (Int.toNat (IntKind.i64.wrap (x5.t8 - 1)) * 5)) p0.a) = true ∧
        ((0 : Int) ≤ (IntKind.i64.wrap (x5.t8 - 1)) ∧ ((IntKind.i64.wrap (x5.t8 - 1)) : Int) < (p0.len : Nat) ∧ Option.isSome p0.a = true) ∧
        ∃ x7 : NumV, View.has V4 (Option.map (fun q => Addr.add q (Int.toNat (IntKind.i64.wrap (x5.t8 - 1)) * 5)) p0.a) (x7.val).cells.toList ∧ Option.isSome (Option.map (fun q => Addr.add q (Int.toNat (IntKind.i64.wrap (x5.t8 - 1)) * 5)) p0.a) = true ∧
        CallV Try.prog 119 #[x7.val] V4 fun v V5 => ∃ r3 : NumV, v = r3.val ∧ -- (num.Num).Conj
        ((0 : Int) ≤ x5.t8 ∧ (x5.t8 : Int) < (Int.toNat (IntKind.i64.wrap (2 * (IntKind.i64.wrap ((p0.len : Int) + 1)))) : Nat)) ∧
        0 + Int.toNat x5.t8 * 5 + 5 ≤ List.length x5.o22 ∧
        ((0 : Int) ≤ (IntKind.i64.wrap ((IntKind.i64.wrap (2 * (IntKind.i64.wrap ((p0.len : Int) + 1)))) - x5.t8)) ∧ ((IntKind.i64.wrap ((IntKind.i64.wrap (2 * (IntKind.i64.wrap ((p0.len : Int) + 1)))) - x5.t8)) : Int) < (Int.toNat (IntKind.i64.wrap (2 * (IntKind.i64.wrap ((p0.len : Int) + 1)))) : Nat)) ∧
        0 + Int.toNat (IntKind.i64.wrap ((IntKind.i64.wrap (2 * (IntKind.i64.wrap ((p0.len : Int) + 1)))) - x5.t8)) * 5 + 5 ≤ List.length (setL x5.o22 (0 + Int.toNat x5.t8 * 5) [.bool x6.re.neg, x6.re.mag.v, .bool x6.im.neg, x6.im.mag.v, x6.under.v]) ∧
        ∃ x8 : L_transform_Extend_num_Num__1, ((SV.val (p0.v) = SV.val (p0.v) ∧ SV.val (.int .i64 (IntKind.i64.wrap ((p0.len : Int) + 1))) = SV.val (.int .i64 (IntKind.i64.wrap ((p0.len : Int) + 1))) ∧ SV.osl 22 0 (Int.toNat (IntKind.i64.wrap (2 * (IntKind.i64.wrap ((p0.len : Int) + 1))))) (Int.toNat (IntKind.i64.wrap (2 * (IntKind.i64.wrap ((p0.len : Int) + 1))))) = SV.osl 22 0 (Int.toNat (IntKind.i64.wrap (2 * (IntKind.i64.wrap ((p0.len : Int) + 1))))) (Int.toNat (IntKind.i64.wrap (2 * (IntKind.i64.wrap ((p0.len : Int) + 1))))) ∧ SV.val (.int .i64 (IntKind.i64.wrap (x5.t8 + 1))) = SV.val (.int .i64 x8.t8) ∧ True) ∧ ((some (⟨31, .dyn (setL (setL x5.o22 (0 + Int.toNat x5.t8 * 5) [.bool x6.re.neg, x6.re.mag.v, .bool x6.im.neg, x6.im.mag.v, x6.under.v]) (0 + Int.toNat (IntKind.i64.wrap ((IntKind.i64.wrap (2 * (IntKind.i64.wrap ((p0.len : Int) + 1)))) - x5.t8)) * 5) [.bool r3.re.neg, r3.re.mag.v, .bool r3.im.neg, r3.im.mag.v, r3.under.v])⟩) : Option OB) = some (⟨31, .dyn x8.o22⟩) ∧ True)) ∧ I_transform_Extend_num_Num__1 () x8 V5 ∧ mu_transform_Extend_num_Num__1 () x8 V5 < mu_transform_Extend_num_Num__1 () x5 V4) ∧
        ((decide ((x5.t8 : Int) < (IntKind.i64.wrap ((p0.len : Int) + 1)))) = false →
          ∀ (b1 : Nat) (V6 : View), View.le V4 V6 → V6 b1 = some (List.toArray x5.o22) →
      R (.tuple #[(Sl.mk (some (Addr.mk b1 0 none)) (Int.toNat (IntKind.i64.wrap (2 * (IntKind.i64.wrap ((p0.len : Int) + 1))))) (Int.toNat (IntKind.i64.wrap (2 * (IntKind.i64.wrap ((p0.len : Int) + 1)))))).v, .int .i64 0]) V6))) from ⟨⟨fun h5 => ⟨fun h1 => ((h.1.1 h5).1 h1), fun h1 => ⟨(L_transform_Extend_num_Num__0.mk ()), ⟨⟨rfl, rfl, rfl, trivial⟩, ⟨rfl, trivial⟩⟩, ((h.1.1 h5).2 h1)⟩⟩, fun h5 => (CallV.mono (h.1.2 h5) (fun _ _ _ ⟨r1, h4, h3⟩ => ⟨r1, h4, ⟨fun h2 => (h3.1 h2), fun h2 => ⟨(L_transform_Extend_num_Num__0.mk ()), ⟨⟨rfl, rfl, rfl, trivial⟩, ⟨rfl, trivial⟩⟩, (h3.2 h2)⟩⟩⟩))⟩, fun x1 V1 h21 h22 => ⟨(h.2 x1 V1 h21 h22).1, (CallV.mono (h.2 x1 V1 h21 h22).2 (fun _ _ _ ⟨r2, h20, h19⟩ => ⟨r2, h20, ⟨h19.1, ⟨h19.2.1, ⟨h19.2.2.1, ⟨h19.2.2.2.1, ⟨⟨(L_transform_Extend_num_Num__1.mk 1 (setL (setL ((List.replicate (Int.toNat (IntKind.i64.wrap (2 * (IntKind.i64.wrap ((p0.len : Int) + 1))))) [Value.bool false, Value.slice none 0 0, Value.bool false, Value.slice none 0 0, Value.slice none 0 0]).flatten) (0 + Int.toNat 0 * 5) [.bool p1.re.neg, p1.re.mag.v, .bool p1.im.neg, p1.im.mag.v, p1.under.v]) (0 + Int.toNat (IntKind.i64.wrap ((p0.len : Int) + 1)) * 5) [.bool r2.re.neg, r2.re.mag.v, .bool r2.im.neg, r2.im.mag.v, r2.under.v])), ⟨⟨rfl, rfl, rfl, rfl, trivial⟩, ⟨rfl, trivial⟩⟩, h19.2.2.2.2.1⟩, fun x5 V4 h17 h18 => ⟨fun h16 => ⟨((h19.2.2.2.2.2 x5 V4 h17 h18).1 h16).1, (match ((h19.2.2.2.2.2 x5 V4 h17 h18).1 h16).2 with | ⟨x6, h12, h13, h11⟩ => ⟨x6, h12, h13, ⟨h11.1, (match h11.2 with | ⟨x7, h9, h10, h8⟩ => ⟨x7, h9, h10, (CallV.mono h8 (fun _ _ _ ⟨r3, h7, h6⟩ => ⟨r3, h7, ⟨h6.1, ⟨h6.2.1, ⟨h6.2.2.1, ⟨h6.2.2.2.1, ⟨(L_transform_Extend_num_Num__1.mk (IntKind.i64.wrap (x5.t8 + 1)) (setL (setL x5.o22 (0 + Int.toNat x5.t8 * 5) [.bool x6.re.neg, x6.re.mag.v, .bool x6.im.neg, x6.im.mag.v, x6.under.v]) (0 + Int.toNat (IntKind.i64.wrap ((IntKind.i64.wrap (2 * (IntKind.i64.wrap ((p0.len : Int) + 1)))) - x5.t8)) * 5) [.bool r3.re.neg, r3.re.mag.v, .bool r3.im.neg, r3.im.mag.v, r3.under.v])), ⟨⟨rfl, rfl, rfl, rfl, trivial⟩, ⟨rfl, trivial⟩⟩, h6.2.2.2.2.1, h6.2.2.2.2.2⟩⟩⟩⟩⟩⟩))⟩)⟩⟩)⟩, fun h16 => (fun b1 V6 h14 h15 => (((h19.2.2.2.2.2 x5 V4 h17 h18).2 h16) b1 V6 h14 h15))⟩⟩⟩⟩⟩⟩⟩))⟩⟩))

structure L_transform_Steps_num_Num__0 where
  t14 : Int
  o11 : List Value
/-- waveport/transform.Steps[waveport/num.Num] -/
theorem transform_Steps_num_Num__vc (p0 : Sl) (V : View) (R : Value → View → Prop) (I_transform_Steps_num_Num__0 : Unit → L_transform_Steps_num_Num__0 → View → Prop) (mu_transform_Steps_num_Num__0 : Unit → L_transform_Steps_num_Num__0 → View → Nat)
  (h :
    ((decide (((p0.len : Int) : Int) > 64)) = true →
      R (.tuple #[(Sl.mk none 0 0).v, .int .i64 4]) V) ∧
    ((decide (((p0.len : Int) : Int) > 64)) = false →
      ((0 : Int) ≤ (p0.len : Int) ∧ ((p0.len : Int) : Int) ≤ (p0.len : Int) ∧ (88 : Int) * (p0.len : Int) ≤ 281474976710656 ∧ ((p0.len : Int) : Int) ≤ 9223372036854775807) ∧
    I_transform_Steps_num_Num__0 () (L_transform_Steps_num_Num__0.mk 0 ((List.replicate (Int.toNat (p0.len : Int)) [Value.bool false, Value.slice none 0 0, Value.bool false, Value.slice none 0 0, Value.slice none 0 0]).flatten)) V ∧
    (∀ (x2 : L_transform_Steps_num_Num__0) (V1 : View), View.le V V1 → I_transform_Steps_num_Num__0 () x2 V1 →
      ((decide ((x2.t14 : Int) < (p0.len : Int))) = true →
        ((0 : Int) ≤ x2.t14 ∧ (x2.t14 : Int) < (p0.len : Nat) ∧ Option.isSome p0.a = true) ∧
      ∃ x3 : NumV, View.has V1 (Option.map (fun q => Addr.add q (Int.toNat x2.t14 * 5)) p0.a) (x3.val).cells.toList ∧ Option.isSome (Option.map (fun q => Addr.add q (Int.toNat x2.t14 * 5)) p0.a) = true ∧
      ((0 : Int) ≤ x2.t14 ∧ (x2.t14 : Int) < (Int.toNat (p0.len : Int) : Nat)) ∧
      0 + Int.toNat x2.t14 * 5 + 5 ≤ List.length x2.o11 ∧
      ((decide ((x2.t14 : Int) > 0)) = true →
        ((0 : Int) ≤ (IntKind.i64.wrap (x2.t14 - 1)) ∧ ((IntKind.i64.wrap (x2.t14 - 1)) : Int) < (Int.toNat (p0.len : Int) : Nat)) ∧
        ∃ x4 : NumV, List.take 5 (List.drop (0 + Int.toNat (IntKind.i64.wrap (x2.t14 - 1)) * 5) (setL x2.o11 (0 + Int.toNat x2.t14 * 5) [.bool x3.re.neg, x3.re.mag.v, .bool x3.im.neg, x3.im.mag.v, x3.under.v])) = (x4.val).cells.toList ∧
        ((0 : Int) ≤ x2.t14 ∧ (x2.t14 : Int) < (p0.len : Nat) ∧ Option.isSome p0.a = true) ∧
        ∃ x5 : NumV, View.has V1 (Option.map (fun q => Addr.add q (Int.toNat x2.t14 * 5)) p0.a) (x5.val).cells.toList ∧ Option.isSome (Option.map (fun q => Addr.add q (Int.toNat x2.t14 * 5)) p0.a) = true ∧
        CallV Try.prog 60 #[x4.val, x5.val] V1 fun v V2 => ∃ r1 : NumV, v = r1.val ∧ -- (num.Num).Add
        ((0 : Int) ≤ x2.t14 ∧ (x2.t14 : Int) < (Int.toNat (p0.len : Int) : Nat)) ∧
        0 + Int.toNat x2.t14 * 5 + 5 ≤ List.length (setL x2.o11 (0 + Int.toNat x2.t14 * 5) [.bool x3.re.neg, x3.re.mag.v, .bool x3.im.neg, x3.im.mag.v, x3.under.v]) ∧
        I_transform_Steps_num_Num__0 () (L_transform_Steps_num_Num__0.mk (IntKind.i64.wrap (x2.t14 + 1)) (setL (setL x2.o11 (0 + Int.toNat x2.t14 * 5) [.bool x3.re.neg, x3.re.mag.v, .bool x3.im.neg, x3.im.mag.v, x3.under.v]) (0 + Int.toNat x2.t14 * 5) [.bool r1.re.neg, r1.re.mag.v, .bool r1.im.neg, r1.im.mag.v, r1.under.v])) V2 ∧ mu_transform_Steps_num_Num__0 () (L_transform_Steps_num_Num__0.mk (IntKind.i64.wrap (x2.t14 + 1)) (setL (setL x2.o11 (0 + Int.toNat x2.t14 * 5) [.bool x3.re.neg, x3.re.mag.v, .bool x3.im.neg, x3.im.mag.v, x3.under.v]) (0 + Int.toNat x2.t14 * 5) [.bool r1.re.neg, r1.re.mag.v, .bool r1.im.neg, r1.im.mag.v, r1.under.v])) V2 < mu_transform_Steps_num_Num__0 () x2 V1) ∧
      ((decide ((x2.t14 : Int) > 0)) = false →
        I_transform_Steps_num_Num__0 () (L_transform_Steps_num_Num__0.mk (IntKind.i64.wrap (x2.t14 + 1)) (setL x2.o11 (0 + Int.toNat x2.t14 * 5) [.bool x3.re.neg, x3.re.mag.v, .bool x3.im.neg, x3.im.mag.v, x3.under.v])) V1 ∧ mu_transform_Steps_num_Num__0 () (L_transform_Steps_num_Num__0.mk (IntKind.i64.wrap (x2.t14 + 1)) (setL x2.o11 (0 + Int.toNat x2.t14 * 5) [.bool x3.re.neg, x3.re.mag.v, .bool x3.im.neg, x3.im.mag.v, x3.under.v])) V1 < mu_transform_Steps_num_Num__0 () x2 V1)) ∧
      ((decide ((x2.t14 : Int) < (p0.len : Int))) = false →
        ∀ (b1 : Nat) (V3 : View), View.le V1 V3 → V3 b1 = some (List.toArray x2.o11) →
    R (.tuple #[(Sl.mk (some (Addr.mk b1 0 none)) (Int.toNat (p0.len : Int)) (Int.toNat (p0.len : Int))).v, .int .i64 0]) V3)))) :
  CallV Try.prog 34 #[p0.v] V R :=
  calls_of_vc (Shp := Shp) hmixed Try.func34 (c := Try.f34.body.getD .skip) (args := [p0.v]) (by kernel_rfl)
    (.seq (.reg [⟨2, 2, false⟩, ⟨3, 2, false⟩]) (.seq (.seq (.reg [⟨6, 2, false⟩, ⟨7, 0, false⟩, ⟨8, 0, false⟩]) (.cond (.seq (.reg [⟨2, 2, false⟩, ⟨3, 2, false⟩]) .leaf) .leaf)) (.seq (.reg [⟨9, 2, false⟩, ⟨10, 0, false⟩, ⟨11, 3, false⟩, ⟨4, 2, false⟩]) (.seq (.seq (.reg [⟨12, 2, false⟩, ⟨13, 0, false⟩, ⟨14, 2, false⟩]) (.block (.loop Unit L_transform_Steps_num_Num__0 (fun _ => ()) (fun c x => { tm := spT 42 0 [(0, .val (p0.v)), (4, .osl 11 0 (Int.toNat (p0.len : Int)) (Int.toNat (p0.len : Int))), (13, .val (.int .i64 (p0.len : Int))), (14, .val (.int .i64 x.t14))], own := spO 42 0 [(11, ⟨31, .dyn x.o11⟩)] }) I_transform_Steps_num_Num__0 mu_transform_Steps_num_Num__0 (.seq (.reg [⟨15, 0, false⟩]) (.seq (.cond .leaf .leaf) (.seq (.block (.seq (.reg [⟨16, 2, false⟩, ⟨5, 2, false⟩]) (.seq (.reg [⟨17, 2, false⟩, ⟨18, 2, false⟩, ⟨19, 2, false⟩, ⟨20, 2, false⟩, ⟨21, 7, false⟩, ⟨22, 5, false⟩, ⟨23, 7, false⟩, ⟨11, 6, false⟩]) (.seq (.reg [⟨24, 2, false⟩, ⟨25, 0, false⟩]) (.cond (.draw [(0, ⟨26, 2, false⟩), (1, ⟨27, 2, false⟩), (2, ⟨28, 2, false⟩), (3, ⟨29, 2, false⟩), (4, ⟨30, 0, false⟩), (5, ⟨31, 7, false⟩), (6, ⟨11, 4, false⟩), (7, ⟨33, 0, false⟩), (8, ⟨34, 2, false⟩), (9, ⟨35, 2, false⟩), (10, ⟨36, 7, false⟩), (11, ⟨37, 5, false⟩), (12, ⟨38, 10, false⟩), (13, ⟨39, 7, false⟩), (14, ⟨11, 6, false⟩)] [0, 0, 0, 0, 8, 28, 60, 124, 0, 0, 768, 1792, 4092, 8191, 16383]) .leaf))))) (.reg [⟨40, 0, false⟩, ⟨14, 2, false⟩]))))))) (.seq (.reg [⟨41, 2, false⟩, ⟨2, 2, false⟩, ⟨3, 2, false⟩]) (.pub 11 .leaf))))))
    (Eq.mpr (by kernel_rfl) (show ((decide (((p0.len : Int) : Int) > 64)) = true →
      R (.tuple #[(Sl.mk none 0 0).v, .int .i64 4]) V) ∧
    ((decide (((p0.len : Int) : Int) > 64)) = false →
      ((0 : Int) ≤ (p0.len : Int) ∧ ((p0.len : Int) : Int) ≤ (p0.len : Int) ∧ (88 : Int) * (p0.len : Int) ≤ 281474976710656 ∧ ((p0.len : Int) : Int) ≤ 9223372036854775807) ∧
    (∃ x1 : L_transform_Steps_num_Num__0, ((SV.val (p0.v) = SV.val (p0.v) ∧ SV.osl 11 0 (Int.toNat (p0.len : Int)) (Int.toNat (p0.len : Int)) = SV.osl 11 0 (Int.toNat (p0.len : Int)) (Int.toNat (p0.len : Int)) ∧ SV.val (.int .i64 (p0.len : Int)) = SV.val (.int .i64 (p0.len : Int)) ∧ SV.val (.int .i64 0) = SV.val (.int .i64 x1.t14) ∧ True) ∧ ((some (⟨31, .dyn ((List.replicate (Int.toNat (p0.len : Int)) [Value.bool false, Value.slice none 0 0, Value.bool false, Value.slice none 0 0, Value.slice none 0 0]).flatten)⟩) : Option OB) = some (⟨31, .dyn x1.o11⟩) ∧ True)) ∧ I_transform_Steps_num_Num__0 () x1 V) ∧
    (∀ (x2 : L_transform_Steps_num_Num__0) (V1 : View), View.le V V1 → I_transform_Steps_num_Num__0 () x2 V1 →
      ((decide ((x2.t14 : Int) < (p0.len : Int))) = true →
        ((0 : Int) ≤ x2.t14 ∧ (x2.t14 : Int) < (p0.len : Nat) ∧ Option.isSome p0.a = true) ∧
      ∃ x3 : NumV, View.has V1 (Option.map (fun q => Addr.add q (Int.toNat x2.t14 * 5)) p0.a) (x3.val).cells.toList ∧ Option.isSome (Option.map (fun q => Addr.add q (Int.toNat x2.t14 * 5)) p0.a) = true ∧
      ((0 : Int) ≤ x2.t14 ∧ (x2.t14 : Int) < (Int.toNat (p0.len : Int) : Nat)) ∧
      0 + Int.toNat x2.t14 * 5 + 5 ≤ List.length x2.o11 ∧
      ((decide ((x2.t14 : Int) > 0)) = true →
        ((0 : Int) ≤ (IntKind.i64.wrap (x2.t14 - 1)) ∧ ((IntKind.i64.wrap (x2.t14 - 1)) : Int) < (Int.toNat (p0.len : Int) : Nat)) ∧
        ∃ x4 : NumV, List.take 5 (List.drop (0 + Int.toNat (IntKind.i64.wrap (x2.t14 - 1)) * 5) (setL x2.o11 (0 + Int.toNat x2.t14 * 5) [.bool x3.re.neg, x3.re.mag.v, .bool x3.im.neg, x3.im.mag.v, x3.under.v])) = (x4.val).cells.toList ∧
        ((0 : Int) ≤ x2.t14 ∧ (x2.t14 : Int) < (p0.len : Nat) ∧ Option.isSome p0.a = true) ∧
        ∃ x5 : NumV, View.has V1 (Option.map (fun q => Addr.add q (Int.toNat x2.t14 * 5)) p0.a) (x5.val).cells.toList ∧ Option.isSome (Option.map (fun q => Addr.add q (Int.toNat x2.t14 * 5)) p0.a) = true ∧
        CallV Try.prog 60 #[x4.val, x5.val] V1 fun v V2 => ∃ r1 : NumV, v = r1.val ∧ -- (num.Num).Add
        ((0 : Int) ≤ x2.t14 ∧ (x2.t14 : Int) < (Int.toNat (p0.len : Int) : Nat)) ∧
        0 + Int.toNat x2.t14 * 5 + 5 ≤ List.length (setL x2.o11 (0 + Int.toNat x2.t14 * 5) [.bool x3.re.neg, x3.re.mag.v, .bool x3.im.neg, x3.im.mag.v, x3.under.v]) ∧
        ∃ x6 : L_transform_Steps_num_Num__0, ((SV.val (p0.v) = SV.val (p0.v) ∧ SV.osl 11 0 (Int.toNat (p0.len : Int)) (Int.toNat (p0.len : Int)) = SV.osl 11 0 (Int.toNat (p0.len : Int)) (Int.toNat (p0.len : Int)) ∧ SV.val (.int .i64 (p0.len : Int)) = SV.val (.int .i64 (p0.len : Int)) ∧ SV.val (.int .i64 (IntKind.i64.wrap (x2.t14 + 1))) = SV.val (.int .i64 x6.t14) ∧ True) ∧ ((some (⟨31, .dyn (setL (setL x2.o11 (0 + Int.toNat x2.t14 * 5) [.bool x3.re.neg, x3.re.mag.v, .bool x3.im.neg, x3.im.mag.v, x3.under.v]) (0 + Int.toNat x2.t14 * 5) [.bool r1.re.neg, r1.re.mag.v, .bool r1.im.neg, r1.im.mag.v, r1.under.v])⟩) : Option OB) = some (⟨31, .dyn x6.o11⟩) ∧ True)) ∧ I_transform_Steps_num_Num__0 () x6 V2 ∧ mu_transform_Steps_num_Num__0 () x6 V2 < mu_transform_Steps_num_Num__0 () x2 V1) ∧
      ((decide ((x2.t14 : Int) > 0)) = false →
        ∃ x7 : L_transform_Steps_num_Num__0, ((SV.val (p0.v) = SV.val (p0.v) ∧ SV.osl 11 0 (Int.toNat (p0.len : Int)) (Int.toNat (p0.len : Int)) = SV.osl 11 0 (Int.toNat (p0.len : Int)) (Int.toNat (p0.len : Int)) ∧ SV.val (.int .i64 (p0.len : Int)) = SV.val (.int .i64 (p0.len : Int)) ∧ SV.val (.int .i64 (IntKind.i64.wrap (x2.t14 + 1))) = SV.val (.int .i64 x7.t14) ∧ True) ∧ ((some (⟨31, .dyn (setL x2.o11 (0 + Int.toNat x2.t14 * 5) [.bool x3.re.neg, x3.re.mag.v, .bool x3.im.neg, x3.im.mag.v, x3.under.v])⟩) : Option OB) = some (⟨31, .dyn x7.o11⟩) ∧ True)) ∧ I_transform_Steps_num_Num__0 () x7 V1 ∧ mu_transform_Steps_num_Num__0 () x7 V1 < mu_transform_Steps_num_Num__0 () x2 V1)) ∧
      ((decide ((x2.t14 : Int) < (p0.len : Int))) = false →
        ∀ (b1 : Nat) (V3 : View), View.le V1 V3 → V3 b1 = some (List.toArray x2.o11) →
    R (.tuple #[(Sl.mk (some (Addr.mk b1 0 none)) (Int.toNat (p0.len : Int)) (Int.toNat (p0.len : Int))).v, .int .i64 0]) V3))) from ⟨fun h17 => (h.1 h17), fun h17 => ⟨(h.2 h17).1, ⟨⟨(L_transform_Steps_num_Num__0.mk 0 ((List.replicate (Int.toNat (p0.len : Int)) [Value.bool false, Value.slice none 0 0, Value.bool false, Value.slice none 0 0, Value.slice none 0 0]).flatten)), ⟨⟨rfl, rfl, rfl, rfl, trivial⟩, ⟨rfl, trivial⟩⟩, (h.2 h17).2.1⟩, fun x2 V1 h15 h16 => ⟨fun h14 => ⟨(((h.2 h17).2.2 x2 V1 h15 h16).1 h14).1, (match (((h.2 h17).2.2 x2 V1 h15 h16).1 h14).2 with | ⟨x3, h10, h11, h9⟩ => ⟨x3, h10, h11, ⟨h9.1, ⟨h9.2.1, ⟨fun h8 => ⟨(h9.2.2.1 h8).1, (match (h9.2.2.1 h8).2 with | ⟨x4, h7, h6⟩ => ⟨x4, h7, ⟨h6.1, (match h6.2 with | ⟨x5, h4, h5, h3⟩ => ⟨x5, h4, h5, (CallV.mono h3 (fun _ _ _ ⟨r1, h2, h1⟩ => ⟨r1, h2, ⟨h1.1, ⟨h1.2.1, ⟨(L_transform_Steps_num_Num__0.mk (IntKind.i64.wrap (x2.t14 + 1)) (setL (setL x2.o11 (0 + Int.toNat x2.t14 * 5) [.bool x3.re.neg, x3.re.mag.v, .bool x3.im.neg, x3.im.mag.v, x3.under.v]) (0 + Int.toNat x2.t14 * 5) [.bool r1.re.neg, r1.re.mag.v, .bool r1.im.neg, r1.im.mag.v, r1.under.v])), ⟨⟨rfl, rfl, rfl, rfl, trivial⟩, ⟨rfl, trivial⟩⟩, h1.2.2.1, h1.2.2.2⟩⟩⟩⟩))⟩)⟩⟩)⟩, fun h8 => ⟨(L_transform_Steps_num_Num__0.mk (IntKind.i64.wrap (x2.t14 + 1)) (setL x2.o11 (0 + Int.toNat x2.t14 * 5) [.bool x3.re.neg, x3.re.mag.v, .bool x3.im.neg, x3.im.mag.v, x3.under.v])), ⟨⟨rfl, rfl, rfl, rfl, trivial⟩, ⟨rfl, trivial⟩⟩, (h9.2.2.2 h8).1, (h9.2.2.2 h8).2⟩⟩⟩⟩⟩)⟩, fun h14 => (fun b1 V3 h12 h13 => ((((h.2 h17).2.2 x2 V1 h15 h16).2 h14) b1 V3 h12 h13))⟩⟩⟩⟩))

structure L_waveportlaw07_TransformReal_0 where
  t7 : Sl
structure L_waveportlaw07_TransformReal_1 where
  u : Unit
structure C_waveportlaw07_TransformReal_1 where
  t13 : Sl
  t15 : Sl
  o8_0 : Bool
  o8_1 : Sl
  o8_2 : Bool
  o8_3 : Sl
  o8_4 : Sl
structure L_waveportlaw07_TransformReal_2 where
  t82 : Int
structure C_waveportlaw07_TransformReal_2 where
  t15 : Sl
  t80 : Sl
  t81 : Int
  o8_0 : Bool
  o8_1 : Sl
  o8_2 : Bool
  o8_3 : Sl
  o8_4 : Sl
/-- waveport/waveportlaw07.TransformReal -/
theorem waveportlaw07_TransformReal_vc (p0 : Sl) (p1 : Bool) (p2 : RatV) (V : View) (R : Value → View → Prop) (I_waveportlaw07_TransformReal_0 : Unit → L_waveportlaw07_TransformReal_0 → View → Prop) (I_waveportlaw07_TransformReal_1 : C_waveportlaw07_TransformReal_1 → L_waveportlaw07_TransformReal_1 → View → Prop) (I_waveportlaw07_TransformReal_2 : C_waveportlaw07_TransformReal_2 → L_waveportlaw07_TransformReal_2 → View → Prop) (mu_waveportlaw07_TransformReal_2 : C_waveportlaw07_TransformReal_2 → L_waveportlaw07_TransformReal_2 → View → Nat)
  (h :
    ((p1 = true →
        CallV Try.prog 20 #[p0.v, .int .i64 1] V fun v V2 => ∃ r1 : Sl, v = r1.v ∧ -- waveportlaw07.repeated
        CallV Try.prog 19 #[r1.v] V2 fun v V3 => ∃ r2 : Sl, v = r2.v ∧ -- waveportlaw01.List
        I_waveportlaw07_TransformReal_0 () (L_waveportlaw07_TransformReal_0.mk r2) V3) ∧
      (p1 = false →
        I_waveportlaw07_TransformReal_0 () (L_waveportlaw07_TransformReal_0.mk (Sl.mk none 0 0)) V)) ∧
    (∀ (x1 : L_waveportlaw07_TransformReal_0) (V1 : View), View.le V V1 → I_waveportlaw07_TransformReal_0 () x1 V1 →
      CallV Try.prog 31 #[(RatV.mk p2.re 0 p2.den).val] V1 fun v V4 => ∃ r3 : NumV, v = r3.val ∧ -- waveportlaw01.Of
      CallV Try.prog 32 #[x1.t7.v, r3.val] V4 fun v V5 => ∃ (r4 : Sl) (r5 : Int), v = .tuple #[r4.v, .int .i64 r5] ∧ -- transform.Extend[num.Num]
      CallV Try.prog 33 #[.int .i64 (IntKind.i64.wrap ((IntKind.i64.wrap (2 * (x1.t7.len : Int))) + 2))] V5 fun v V6 => ∃ (r6 : Sl) (r7 : Int), v = .tuple #[r6.v, .int .i64 r7] ∧ -- transform.Exact
      CallV Try.prog 30 #[r4.v, r6.v] V6 fun v V7 => ∃ (r8 : Sl) (r9 : Int), v = .tuple #[r8.v, .int .i64 r9] ∧ -- transform.FastBack[num.Num]
      CallV Try.prog 34 #[r8.v] V7 fun v V8 => ∃ (r10 : Sl) (r11 : Int), v = .tuple #[r10.v, .int .i64 r11] ∧ -- transform.Steps[num.Num]
      ((((r5 : Int) != 0) = true →
        (true = true →
        (true = true →
        (true = true →
        (true = true →
        (true = true →
          R (.bool false) V8) ∧
        (true = false →
          I_waveportlaw07_TransformReal_1 (C_waveportlaw07_TransformReal_1.mk r8 r10 r3.re.neg r3.re.mag r3.im.neg r3.im.mag r3.under) (L_waveportlaw07_TransformReal_1.mk ()) V8)) ∧
        (true = false →
        ((((r10.len : Int) : Int) == 0) = true →
          R (.bool false) V8) ∧
        ((((r10.len : Int) : Int) == 0) = false →
          I_waveportlaw07_TransformReal_1 (C_waveportlaw07_TransformReal_1.mk r8 r10 r3.re.neg r3.re.mag r3.im.neg r3.im.mag r3.under) (L_waveportlaw07_TransformReal_1.mk ()) V8))) ∧
        (true = false →
        ((((r10.len : Int) : Int) != (r6.len : Int)) = true →
        (true = true →
          R (.bool false) V8) ∧
        (true = false →
          I_waveportlaw07_TransformReal_1 (C_waveportlaw07_TransformReal_1.mk r8 r10 r3.re.neg r3.re.mag r3.im.neg r3.im.mag r3.under) (L_waveportlaw07_TransformReal_1.mk ()) V8)) ∧
        ((((r10.len : Int) : Int) != (r6.len : Int)) = false →
        ((((r10.len : Int) : Int) == 0) = true →
          R (.bool false) V8) ∧
        ((((r10.len : Int) : Int) == 0) = false →
          I_waveportlaw07_TransformReal_1 (C_waveportlaw07_TransformReal_1.mk r8 r10 r3.re.neg r3.re.mag r3.im.neg r3.im.mag r3.under) (L_waveportlaw07_TransformReal_1.mk ()) V8)))) ∧
        (true = false →
        (((r11 : Int) != 0) = true →
        (true = true →
        (true = true →
          R (.bool false) V8) ∧
        (true = false →
          I_waveportlaw07_TransformReal_1 (C_waveportlaw07_TransformReal_1.mk r8 r10 r3.re.neg r3.re.mag r3.im.neg r3.im.mag r3.under) (L_waveportlaw07_TransformReal_1.mk ()) V8)) ∧
        (true = false →
        ((((r10.len : Int) : Int) == 0) = true →
          R (.bool false) V8) ∧
        ((((r10.len : Int) : Int) == 0) = false →
          I_waveportlaw07_TransformReal_1 (C_waveportlaw07_TransformReal_1.mk r8 r10 r3.re.neg r3.re.mag r3.im.neg r3.im.mag r3.under) (L_waveportlaw07_TransformReal_1.mk ()) V8))) ∧
        (((r11 : Int) != 0) = false →
        ((((r10.len : Int) : Int) != (r6.len : Int)) = true →
        (true = true →
          R (.bool false) V8) ∧
        (true = false →
          I_waveportlaw07_TransformReal_1 (C_waveportlaw07_TransformReal_1.mk r8 r10 r3.re.neg r3.re.mag r3.im.neg r3.im.mag r3.under) (L_waveportlaw07_TransformReal_1.mk ()) V8)) ∧
        ((((r10.len : Int) : Int) != (r6.len : Int)) = false →
        ((((r10.len : Int) : Int) == 0) = true →
          R (.bool false) V8) ∧
        ((((r10.len : Int) : Int) == 0) = false →
          I_waveportlaw07_TransformReal_1 (C_waveportlaw07_TransformReal_1.mk r8 r10 r3.re.neg r3.re.mag r3.im.neg r3.im.mag r3.under) (L_waveportlaw07_TransformReal_1.mk ()) V8))))) ∧
        (true = false →
        (((r9 : Int) != 0) = true →
        (true = true →
        (true = true →
        (true = true →
          R (.bool false) V8) ∧
        (true = false →
          I_waveportlaw07_TransformReal_1 (C_waveportlaw07_TransformReal_1.mk r8 r10 r3.re.neg r3.re.mag r3.im.neg r3.im.mag r3.under) (L_waveportlaw07_TransformReal_1.mk ()) V8)) ∧
        (true = false →
        ((((r10.len : Int) : Int) == 0) = true →
          R (.bool false) V8) ∧
        ((((r10.len : Int) : Int) == 0) = false →
          I_waveportlaw07_TransformReal_1 (C_waveportlaw07_TransformReal_1.mk r8 r10 r3.re.neg r3.re.mag r3.im.neg r3.im.mag r3.under) (L_waveportlaw07_TransformReal_1.mk ()) V8))) ∧
        (true = false →
        ((((r10.len : Int) : Int) != (r6.len : Int)) = true →
        (true = true →
          R (.bool false) V8) ∧
        (true = false →
          I_waveportlaw07_TransformReal_1 (C_waveportlaw07_TransformReal_1.mk r8 r10 r3.re.neg r3.re.mag r3.im.neg r3.im.mag r3.under) (L_waveportlaw07_TransformReal_1.mk ()) V8)) ∧
        ((((r10.len : Int) : Int) != (r6.len : Int)) = false →
        ((((r10.len : Int) : Int) == 0) = true →
          R (.bool false) V8) ∧
        ((((r10.len : Int) : Int) == 0) = false →
          I_waveportlaw07_TransformReal_1 (C_waveportlaw07_TransformReal_1.mk r8 r10 r3.re.neg r3.re.mag r3.im.neg r3.im.mag r3.under) (L_waveportlaw07_TransformReal_1.mk ()) V8)))) ∧
        (((r9 : Int) != 0) = false →
        (((r11 : Int) != 0) = true →
        (true = true →
        (true = true →
          R (.bool false) V8) ∧
        (true = false →
          I_waveportlaw07_TransformReal_1 (C_waveportlaw07_TransformReal_1.mk r8 r10 r3.re.neg r3.re.mag r3.im.neg r3.im.mag r3.under) (L_waveportlaw07_TransformReal_1.mk ()) V8)) ∧
        (true = false →
        ((((r10.len : Int) : Int) == 0) = true →
          R (.bool false) V8) ∧
        ((((r10.len : Int) : Int) == 0) = false →
          I_waveportlaw07_TransformReal_1 (C_waveportlaw07_TransformReal_1.mk r8 r10 r3.re.neg r3.re.mag r3.im.neg r3.im.mag r3.under) (L_waveportlaw07_TransformReal_1.mk ()) V8))) ∧
        (((r11 : Int) != 0) = false →
        ((((r10.len : Int) : Int) != (r6.len : Int)) = true →
        (true = true →
          R (.bool false) V8) ∧
        (true = false →
          I_waveportlaw07_TransformReal_1 (C_waveportlaw07_TransformReal_1.mk r8 r10 r3.re.neg r3.re.mag r3.im.neg r3.im.mag r3.under) (L_waveportlaw07_TransformReal_1.mk ()) V8)) ∧
        ((((r10.len : Int) : Int) != (r6.len : Int)) = false →
        ((((r10.len : Int) : Int) == 0) = true →
          R (.bool false) V8) ∧
        ((((r10.len : Int) : Int) == 0) = false →
          I_waveportlaw07_TransformReal_1 (C_waveportlaw07_TransformReal_1.mk r8 r10 r3.re.neg r3.re.mag r3.im.neg r3.im.mag r3.under) (L_waveportlaw07_TransformReal_1.mk ()) V8)))))) ∧
        (((r5 : Int) != 0) = false →
        (((r7 : Int) != 0) = true →
        (true = true →
        (true = true →
        (true = true →
        (true = true →
          R (.bool false) V8) ∧
        (true = false →
          I_waveportlaw07_TransformReal_1 (C_waveportlaw07_TransformReal_1.mk r8 r10 r3.re.neg r3.re.mag r3.im.neg r3.im.mag r3.under) (L_waveportlaw07_TransformReal_1.mk ()) V8)) ∧
        (true = false →
        ((((r10.len : Int) : Int) == 0) = true →
          R (.bool false) V8) ∧
        ((((r10.len : Int) : Int) == 0) = false →
          I_waveportlaw07_TransformReal_1 (C_waveportlaw07_TransformReal_1.mk r8 r10 r3.re.neg r3.re.mag r3.im.neg r3.im.mag r3.under) (L_waveportlaw07_TransformReal_1.mk ()) V8))) ∧
        (true = false →
        ((((r10.len : Int) : Int) != (r6.len : Int)) = true →
        (true = true →
          R (.bool false) V8) ∧
        (true = false →
          I_waveportlaw07_TransformReal_1 (C_waveportlaw07_TransformReal_1.mk r8 r10 r3.re.neg r3.re.mag r3.im.neg r3.im.mag r3.under) (L_waveportlaw07_TransformReal_1.mk ()) V8)) ∧
        ((((r10.len : Int) : Int) != (r6.len : Int)) = false →
        ((((r10.len : Int) : Int) == 0) = true →
          R (.bool false) V8) ∧
        ((((r10.len : Int) : Int) == 0) = false →
          I_waveportlaw07_TransformReal_1 (C_waveportlaw07_TransformReal_1.mk r8 r10 r3.re.neg r3.re.mag r3.im.neg r3.im.mag r3.under) (L_waveportlaw07_TransformReal_1.mk ()) V8)))) ∧
        (true = false →
        (((r11 : Int) != 0) = true →
        (true = true →
        (true = true →
          R (.bool false) V8) ∧
        (true = false →
          I_waveportlaw07_TransformReal_1 (C_waveportlaw07_TransformReal_1.mk r8 r10 r3.re.neg r3.re.mag r3.im.neg r3.im.mag r3.under) (L_waveportlaw07_TransformReal_1.mk ()) V8)) ∧
        (true = false →
        ((((r10.len : Int) : Int) == 0) = true →
          R (.bool false) V8) ∧
        ((((r10.len : Int) : Int) == 0) = false →
          I_waveportlaw07_TransformReal_1 (C_waveportlaw07_TransformReal_1.mk r8 r10 r3.re.neg r3.re.mag r3.im.neg r3.im.mag r3.under) (L_waveportlaw07_TransformReal_1.mk ()) V8))) ∧
        (((r11 : Int) != 0) = false →
        ((((r10.len : Int) : Int) != (r6.len : Int)) = true →
        (true = true →
          R (.bool false) V8) ∧
        (true = false →
          I_waveportlaw07_TransformReal_1 (C_waveportlaw07_TransformReal_1.mk r8 r10 r3.re.neg r3.re.mag r3.im.neg r3.im.mag r3.under) (L_waveportlaw07_TransformReal_1.mk ()) V8)) ∧
        ((((r10.len : Int) : Int) != (r6.len : Int)) = false →
        ((((r10.len : Int) : Int) == 0) = true →
          R (.bool false) V8) ∧
        ((((r10.len : Int) : Int) == 0) = false →
          I_waveportlaw07_TransformReal_1 (C_waveportlaw07_TransformReal_1.mk r8 r10 r3.re.neg r3.re.mag r3.im.neg r3.im.mag r3.under) (L_waveportlaw07_TransformReal_1.mk ()) V8))))) ∧
        (((r7 : Int) != 0) = false →
        (((r9 : Int) != 0) = true →
        (true = true →
        (true = true →
        (true = true →
          R (.bool false) V8) ∧
        (true = false →
          I_waveportlaw07_TransformReal_1 (C_waveportlaw07_TransformReal_1.mk r8 r10 r3.re.neg r3.re.mag r3.im.neg r3.im.mag r3.under) (L_waveportlaw07_TransformReal_1.mk ()) V8)) ∧
        (true = false →
        ((((r10.len : Int) : Int) == 0) = true →
          R (.bool false) V8) ∧
        ((((r10.len : Int) : Int) == 0) = false →
          I_waveportlaw07_TransformReal_1 (C_waveportlaw07_TransformReal_1.mk r8 r10 r3.re.neg r3.re.mag r3.im.neg r3.im.mag r3.under) (L_waveportlaw07_TransformReal_1.mk ()) V8))) ∧
        (true = false →
        ((((r10.len : Int) : Int) != (r6.len : Int)) = true →
        (true = true →
          R (.bool false) V8) ∧
        (true = false →
          I_waveportlaw07_TransformReal_1 (C_waveportlaw07_TransformReal_1.mk r8 r10 r3.re.neg r3.re.mag r3.im.neg r3.im.mag r3.under) (L_waveportlaw07_TransformReal_1.mk ()) V8)) ∧
        ((((r10.len : Int) : Int) != (r6.len : Int)) = false →
        ((((r10.len : Int) : Int) == 0) = true →
          R (.bool false) V8) ∧
        ((((r10.len : Int) : Int) == 0) = false →
          I_waveportlaw07_TransformReal_1 (C_waveportlaw07_TransformReal_1.mk r8 r10 r3.re.neg r3.re.mag r3.im.neg r3.im.mag r3.under) (L_waveportlaw07_TransformReal_1.mk ()) V8)))) ∧
        (((r9 : Int) != 0) = false →
        (((r11 : Int) != 0) = true →
        (true = true →
        (true = true →
          R (.bool false) V8) ∧
        (true = false →
          I_waveportlaw07_TransformReal_1 (C_waveportlaw07_TransformReal_1.mk r8 r10 r3.re.neg r3.re.mag r3.im.neg r3.im.mag r3.under) (L_waveportlaw07_TransformReal_1.mk ()) V8)) ∧
        (true = false →
        ((((r10.len : Int) : Int) == 0) = true →
          R (.bool false) V8) ∧
        ((((r10.len : Int) : Int) == 0) = false →
          I_waveportlaw07_TransformReal_1 (C_waveportlaw07_TransformReal_1.mk r8 r10 r3.re.neg r3.re.mag r3.im.neg r3.im.mag r3.under) (L_waveportlaw07_TransformReal_1.mk ()) V8))) ∧
        (((r11 : Int) != 0) = false →
        ((((r10.len : Int) : Int) != (r6.len : Int)) = true →
        (true = true →
          R (.bool false) V8) ∧
        (true = false →
          I_waveportlaw07_TransformReal_1 (C_waveportlaw07_TransformReal_1.mk r8 r10 r3.re.neg r3.re.mag r3.im.neg r3.im.mag r3.under) (L_waveportlaw07_TransformReal_1.mk ()) V8)) ∧
        ((((r10.len : Int) : Int) != (r6.len : Int)) = false →
        ((((r10.len : Int) : Int) == 0) = true →
          R (.bool false) V8) ∧
        ((((r10.len : Int) : Int) == 0) = false →
          I_waveportlaw07_TransformReal_1 (C_waveportlaw07_TransformReal_1.mk r8 r10 r3.re.neg r3.re.mag r3.im.neg r3.im.mag r3.under) (L_waveportlaw07_TransformReal_1.mk ()) V8))))))) ∧
      (∀ (x4 : L_waveportlaw07_TransformReal_1) (V9 : View), View.le V8 V9 → I_waveportlaw07_TransformReal_1 (C_waveportlaw07_TransformReal_1.mk r8 r10 r3.re.neg r3.re.mag r3.im.neg r3.im.mag r3.under) x4 V9 →
        I_waveportlaw07_TransformReal_2 (C_waveportlaw07_TransformReal_2.mk r10 r8 (r8.len : Int) r3.re.neg r3.re.mag r3.im.neg r3.im.mag r3.under) (L_waveportlaw07_TransformReal_2.mk 0) V9 ∧
        (∀ (x38 : L_waveportlaw07_TransformReal_2) (V10 : View), View.le V9 V10 → I_waveportlaw07_TransformReal_2 (C_waveportlaw07_TransformReal_2.mk r10 r8 (r8.len : Int) r3.re.neg r3.re.mag r3.im.neg r3.im.mag r3.under) x38 V10 →
          ((decide ((x38.t82 : Int) < (r8.len : Int))) = true →
            ((0 : Int) ≤ x38.t82 ∧ (x38.t82 : Int) < (r8.len : Nat) ∧ Option.isSome r8.a = true) ∧
          ∃ x39 : NumV, View.has V10 (Option.map (fun q => Addr.add q (Int.toNat x38.t82 * 5)) r8.a) (x39.val).cells.toList ∧ Option.isSome (Option.map (fun q => Addr.add q (Int.toNat x38.t82 * 5)) r8.a) = true ∧
          CallV Try.prog 12 #[x39.val] V10 fun v V11 => ∃ r12 : Bool, v = .bool r12 ∧ -- (num.Num).Real
          ((!r12) = true →
            R (.bool false) V11) ∧
          ((!r12) = false →
            I_waveportlaw07_TransformReal_2 (C_waveportlaw07_TransformReal_2.mk r10 r8 (r8.len : Int) r3.re.neg r3.re.mag r3.im.neg r3.im.mag r3.under) (L_waveportlaw07_TransformReal_2.mk (IntKind.i64.wrap (x38.t82 + 1))) V11 ∧ mu_waveportlaw07_TransformReal_2 (C_waveportlaw07_TransformReal_2.mk r10 r8 (r8.len : Int) r3.re.neg r3.re.mag r3.im.neg r3.im.mag r3.under) (L_waveportlaw07_TransformReal_2.mk (IntKind.i64.wrap (x38.t82 + 1))) V11 < mu_waveportlaw07_TransformReal_2 (C_waveportlaw07_TransformReal_2.mk r10 r8 (r8.len : Int) r3.re.neg r3.re.mag r3.im.neg r3.im.mag r3.under) x38 V10)) ∧
          ((decide ((x38.t82 : Int) < (r8.len : Int))) = false →
            ((0 : Int) ≤ (IntKind.i64.wrap ((r10.len : Int) - 1)) ∧ ((IntKind.i64.wrap ((r10.len : Int) - 1)) : Int) < (r10.len : Nat) ∧ Option.isSome r10.a = true) ∧
        ∃ x41 : NumV, View.has V10 (Option.map (fun q => Addr.add q (Int.toNat (IntKind.i64.wrap ((r10.len : Int) - 1)) * 5)) r10.a) (x41.val).cells.toList ∧ Option.isSome (Option.map (fun q => Addr.add q (Int.toNat (IntKind.i64.wrap ((r10.len : Int) - 1)) * 5)) r10.a) = true ∧
        CallV Try.prog 15 #[x41.val, r3.val] V10 fun v V12 => ∃ r13 : Bool, v = .bool r13 ∧ -- (num.Num).Same
        (r13 = true →
        CallV Try.prog 16 #[] V12 fun v V13 => ∃ r14 : Bool, v = .bool r14 ∧ -- waveportlaw07.awake
        R (.bool r14) V13) ∧
        (r13 = false →
        R (.bool false) V12)))))) :
  CallV Try.prog 7 #[p0.v, .bool p1, p2.val] V R :=
  calls_of_vc (Shp := Shp) hmixed Try.func7 (c := Try.f7.body.getD .skip) (args := [p0.v, .bool p1, p2.val]) (by kernel_rfl)
    (.seq (.reg [⟨5, 3, false⟩, ⟨6, 2, false⟩]) (.seq (.reg [⟨7, 2, false⟩]) (.cut Unit L_waveportlaw07_TransformReal_0 (fun _ => ()) (fun c x => { tm := spT 101 0 [(5, .own 5 0), (7, .val (x.t7.v))], own := spO 101 0 [(5, ⟨65, .fixed [.val (.int .i64 p2.re), .val (.int .i64 p2.im), .val (.int .i64 p2.den)]⟩)] }) I_waveportlaw07_TransformReal_0 (.seq (.reg [⟨19, 2, false⟩]) (.cond (.reg [⟨20, 2, false⟩, ⟨21, 10, false⟩, ⟨22, 10, false⟩, ⟨7, 2, false⟩]) .leaf)) (.seq (.reg [⟨23, 7, false⟩, ⟨5, 4, false⟩, ⟨25, 7, false⟩, ⟨5, 4, false⟩, ⟨27, 0, false⟩, ⟨28, 10, false⟩, ⟨8, 3, false⟩, ⟨8, 6, false⟩]) (.seq (.reg [⟨30, 2, false⟩, ⟨8, 4, false⟩, ⟨32, 10, false⟩, ⟨29, 2, false⟩, ⟨33, 0, false⟩, ⟨34, 0, false⟩, ⟨9, 2, false⟩, ⟨10, 2, false⟩]) (.seq (.reg [⟨36, 2, false⟩, ⟨37, 0, false⟩, ⟨38, 0, false⟩, ⟨39, 0, false⟩, ⟨40, 10, false⟩, ⟨35, 2, false⟩, ⟨41, 0, false⟩, ⟨42, 0, false⟩, ⟨11, 2, false⟩, ⟨12, 2, false⟩]) (.seq (.reg [⟨44, 2, false⟩, ⟨45, 2, false⟩, ⟨46, 10, false⟩, ⟨43, 2, false⟩, ⟨47, 0, false⟩, ⟨48, 0, false⟩, ⟨13, 2, false⟩, ⟨14, 2, false⟩]) (.seq (.reg [⟨50, 2, false⟩, ⟨51, 10, false⟩, ⟨49, 2, false⟩, ⟨52, 0, false⟩, ⟨53, 0, false⟩, ⟨15, 2, false⟩, ⟨16, 2, false⟩]) (.cut C_waveportlaw07_TransformReal_1 L_waveportlaw07_TransformReal_1 (fun σ => C_waveportlaw07_TransformReal_1.mk (Sl.mk (gSlA (gTm σ 13)) (gSlL (gTm σ 13)) (gSlC (gTm σ 13))) (Sl.mk (gSlA (gTm σ 15)) (gSlL (gTm σ 15)) (gSlC (gTm σ 15))) (gBool (gOwn σ 8 0)) (Sl.mk (gSlA (gOwn σ 8 1)) (gSlL (gOwn σ 8 1)) (gSlC (gOwn σ 8 1))) (gBool (gOwn σ 8 2)) (Sl.mk (gSlA (gOwn σ 8 3)) (gSlL (gOwn σ 8 3)) (gSlC (gOwn σ 8 3))) (Sl.mk (gSlA (gOwn σ 8 4)) (gSlL (gOwn σ 8 4)) (gSlC (gOwn σ 8 4)))) (fun c x => { tm := spT 101 0 [(8, .own 8 0), (13, .val (c.t13.v)), (15, .val (c.t15.v))], own := spO 101 0 [(8, ⟨31, .fixed [.val (.bool c.o8_0), .val (c.o8_1.v), .val (.bool c.o8_2), .val (c.o8_3.v), .val (c.o8_4.v)]⟩)] }) I_waveportlaw07_TransformReal_1 (.seq (.reg [⟨54, 2, false⟩, ⟨55, 0, false⟩, ⟨56, 2, true⟩, ⟨57, 2, false⟩, ⟨58, 0, false⟩, ⟨59, 2, false⟩, ⟨60, 2, true⟩, ⟨61, 2, false⟩, ⟨62, 0, false⟩, ⟨63, 2, false⟩, ⟨64, 2, true⟩, ⟨65, 2, false⟩, ⟨66, 0, false⟩, ⟨67, 2, false⟩, ⟨68, 2, true⟩, ⟨69, 2, false⟩, ⟨70, 0, false⟩, ⟨71, 2, false⟩, ⟨72, 0, false⟩, ⟨73, 0, false⟩, ⟨74, 2, false⟩, ⟨75, 2, true⟩, ⟨76, 2, false⟩, ⟨77, 0, false⟩, ⟨78, 0, false⟩, ⟨79, 2, false⟩]) (.cond (.seq (.reg [⟨6, 2, false⟩]) .leaf) .leaf)) (.seq (.seq (.reg [⟨80, 2, false⟩, ⟨81, 0, false⟩, ⟨82, 2, false⟩]) (.block (.loop C_waveportlaw07_TransformReal_2 L_waveportlaw07_TransformReal_2 (fun σ => C_waveportlaw07_TransformReal_2.mk (Sl.mk (gSlA (gTm σ 15)) (gSlL (gTm σ 15)) (gSlC (gTm σ 15))) (Sl.mk (gSlA (gTm σ 80)) (gSlL (gTm σ 80)) (gSlC (gTm σ 80))) (gInt (gTm σ 81)) (gBool (gOwn σ 8 0)) (Sl.mk (gSlA (gOwn σ 8 1)) (gSlL (gOwn σ 8 1)) (gSlC (gOwn σ 8 1))) (gBool (gOwn σ 8 2)) (Sl.mk (gSlA (gOwn σ 8 3)) (gSlL (gOwn σ 8 3)) (gSlC (gOwn σ 8 3))) (Sl.mk (gSlA (gOwn σ 8 4)) (gSlL (gOwn σ 8 4)) (gSlC (gOwn σ 8 4)))) (fun c x => { tm := spT 101 0 [(8, .own 8 0), (15, .val (c.t15.v)), (80, .val (c.t80.v)), (81, .val (.int .i64 c.t81)), (82, .val (.int .i64 x.t82))], own := spO 101 0 [(8, ⟨31, .fixed [.val (.bool c.o8_0), .val (c.o8_1.v), .val (.bool c.o8_2), .val (c.o8_3.v), .val (c.o8_4.v)]⟩)] }) I_waveportlaw07_TransformReal_2 mu_waveportlaw07_TransformReal_2 (.seq (.reg [⟨83, 0, false⟩]) (.seq (.cond .leaf .leaf) (.seq (.block (.seq (.reg [⟨84, 7, false⟩, ⟨85, 5, false⟩, ⟨18, 3, false⟩, ⟨18, 6, false⟩]) (.seq (.reg [⟨18, 4, false⟩, ⟨87, 10, false⟩, ⟨88, 0, false⟩]) (.cond (.seq (.reg [⟨6, 2, false⟩]) .leaf) .leaf)))) (.reg [⟨89, 0, false⟩, ⟨82, 2, false⟩]))))))) (.seq (.draw [(0, ⟨90, 2, false⟩), (1, ⟨91, 2, false⟩), (2, ⟨92, 0, false⟩), (3, ⟨93, 0, false⟩), (4, ⟨94, 7, false⟩), (5, ⟨95, 5, false⟩), (6, ⟨8, 4, false⟩), (7, ⟨97, 10, false⟩), (8, ⟨98, 2, true⟩), (9, ⟨99, 10, false⟩), (10, ⟨100, 2, false⟩), (11, ⟨6, 2, false⟩)] [0, 0, 2, 6, 15, 31, 0, 127, 255, 511, 1023, 2047]) .leaf)))))))))))
    (Eq.mpr (by kernel_rfl) (show ((p1 = true →
        CallV Try.prog 20 #[p0.v, .int .i64 1] V fun v V2 => ∃ r1 : Sl, v = r1.v ∧ -- waveportlaw07.repeated
        CallV Try.prog 19 #[r1.v] V2 fun v V3 => ∃ r2 : Sl, v = r2.v ∧ -- waveportlaw01.List
        ∃ x2 : L_waveportlaw07_TransformReal_0, ((SV.own 5 0 = SV.own 5 0 ∧ SV.val (r2.v) = SV.val (x2.t7.v) ∧ True) ∧ ((some (⟨65, .fixed [.val (.int .i64 p2.re), .val (.int .i64 p2.im), .val (.int .i64 p2.den)]⟩) : Option OB) = some (⟨65, .fixed [.val (.int .i64 p2.re), .val (.int .i64 p2.im), .val (.int .i64 p2.den)]⟩) ∧ True)) ∧ I_waveportlaw07_TransformReal_0 () x2 V3) ∧
      (p1 = false →
        ∃ x3 : L_waveportlaw07_TransformReal_0, ((SV.own 5 0 = SV.own 5 0 ∧ SV.val (.slice none 0 0) = SV.val (x3.t7.v) ∧ True) ∧ ((some (⟨65, .fixed [.val (.int .i64 p2.re), .val (.int .i64 p2.im), .val (.int .i64 p2.den)]⟩) : Option OB) = some (⟨65, .fixed [.val (.int .i64 p2.re), .val (.int .i64 p2.im), .val (.int .i64 p2.den)]⟩) ∧ True)) ∧ I_waveportlaw07_TransformReal_0 () x3 V)) ∧
    (∀ (x1 : L_waveportlaw07_TransformReal_0) (V1 : View), View.le V V1 → I_waveportlaw07_TransformReal_0 () x1 V1 →
      CallV Try.prog 31 #[(RatV.mk p2.re 0 p2.den).val] V1 fun v V4 => ∃ r3 : NumV, v = r3.val ∧ -- waveportlaw01.Of
      CallV Try.prog 32 #[x1.t7.v, r3.val] V4 fun v V5 => ∃ (r4 : Sl) (r5 : Int), v = .tuple #[r4.v, .int .i64 r5] ∧ -- transform.Extend[num.Num]
      CallV Try.prog 33 #[.int .i64 (IntKind.i64.wrap ((IntKind.i64.wrap (2 * (x1.t7.len : Int))) + 2))] V5 fun v V6 => ∃ (r6 : Sl) (r7 : Int), v = .tuple #[r6.v, .int .i64 r7] ∧ -- transform.Exact
      CallV Try.prog 30 #[r4.v, r6.v] V6 fun v V7 => ∃ (r8 : Sl) (r9 : Int), v = .tuple #[r8.v, .int .i64 r9] ∧ -- transform.FastBack[num.Num]
      CallV Try.prog 34 #[r8.v] V7 fun v V8 => ∃ (r10 : Sl) (r11 : Int), v = .tuple #[r10.v, .int .i64 r11] ∧ -- transform.Steps[num.Num]
      ((((r5 : Int) != 0) = true →
        (true = true →
        (true = true →
        (true = true →
        (true = true →
        (true = true →
          R (.bool false) V8) ∧
        (true = false →
          ∃ x5 : L_waveportlaw07_TransformReal_1, ((SV.own 8 0 = SV.own 8 0 ∧ SV.val (r8.v) = SV.val (r8.v) ∧ SV.val (r10.v) = SV.val (r10.v) ∧ True) ∧ ((some (⟨31, .fixed [.val (.bool r3.re.neg), .val (r3.re.mag.v), .val (.bool r3.im.neg), .val (r3.im.mag.v), .val (r3.under.v)]⟩) : Option OB) = some (⟨31, .fixed [.val (.bool r3.re.neg), .val (r3.re.mag.v), .val (.bool r3.im.neg), .val (r3.im.mag.v), .val (r3.under.v)]⟩) ∧ True)) ∧ I_waveportlaw07_TransformReal_1 (C_waveportlaw07_TransformReal_1.mk r8 r10 r3.re.neg r3.re.mag r3.im.neg r3.im.mag r3.under) x5 V8)) ∧
        (true = false →
        ((((r10.len : Int) : Int) == 0) = true →
          R (.bool false) V8) ∧
        ((((r10.len : Int) : Int) == 0) = false →
          ∃ x6 : L_waveportlaw07_TransformReal_1, ((SV.own 8 0 = SV.own 8 0 ∧ SV.val (r8.v) = SV.val (r8.v) ∧ SV.val (r10.v) = SV.val (r10.v) ∧ True) ∧ ((some (⟨31, .fixed [.val (.bool r3.re.neg), .val (r3.re.mag.v), .val (.bool r3.im.neg), .val (r3.im.mag.v), .val (r3.under.v)]⟩) : Option OB) = some (⟨31, .fixed [.val (.bool r3.re.neg), .val (r3.re.mag.v), .val (.bool r3.im.neg), .val (r3.im.mag.v), .val (r3.under.v)]⟩) ∧ True)) ∧ I_waveportlaw07_TransformReal_1 (C_waveportlaw07_TransformReal_1.mk r8 r10 r3.re.neg r3.re.mag r3.im.neg r3.im.mag r3.under) x6 V8))) ∧
        (true = false →
        ((((r10.len : Int) : Int) != (r6.len : Int)) = true →
        (true = true →
          R (.bool false) V8) ∧
        (true = false →
          ∃ x7 : L_waveportlaw07_TransformReal_1, ((SV.own 8 0 = SV.own 8 0 ∧ SV.val (r8.v) = SV.val (r8.v) ∧ SV.val (r10.v) = SV.val (r10.v) ∧ True) ∧ ((some (⟨31, .fixed [.val (.bool r3.re.neg), .val (r3.re.mag.v), .val (.bool r3.im.neg), .val (r3.im.mag.v), .val (r3.under.v)]⟩) : Option OB) = some (⟨31, .fixed [.val (.bool r3.re.neg), .val (r3.re.mag.v), .val (.bool r3.im.neg), .val (r3.im.mag.v), .val (r3.under.v)]⟩) ∧ True)) ∧ I_waveportlaw07_TransformReal_1 (C_waveportlaw07_TransformReal_1.mk r8 r10 r3.re.neg r3.re.mag r3.im.neg r3.im.mag r3.under) x7 V8)) ∧
        ((((r10.len : Int) : Int) != (r6.len : Int)) = false →
        ((((r10.len : Int) : Int) == 0) = true →
          R (.bool false) V8) ∧
        ((((r10.len : Int) : Int) == 0) = false →
          ∃ x8 : L_waveportlaw07_TransformReal_1, ((SV.own 8 0 = SV.own 8 0 ∧ SV.val (r8.v) = SV.val (r8.v) ∧ SV.val (r10.v) = SV.val (r10.v) ∧ True) ∧ ((some (⟨31, .fixed [.val (.bool r3.re.neg), .val (r3.re.mag.v), .val (.bool r3.im.neg), .val (r3.im.mag.v), .val (r3.under.v)]⟩) : Option OB) = some (⟨31, .fixed [.val (.bool r3.re.neg), .val (r3.re.mag.v), .val (.bool r3.im.neg), .val (r3.im.mag.v), .val (r3.under.v)]⟩) ∧ True)) ∧ I_waveportlaw07_TransformReal_1 (C_waveportlaw07_TransformReal_1.mk r8 r10 r3.re.neg r3.re.mag r3.im.neg r3.im.mag r3.under) x8 V8)))) ∧
        (true = false →
        (((r11 : Int) != 0) = true →
        (true = true →
        (true = true →
          R (.bool false) V8) ∧
        (true = false →
          ∃ x9 : L_waveportlaw07_TransformReal_1, ((SV.own 8 0 = SV.own 8 0 ∧ SV.val (r8.v) = SV.val (r8.v) ∧ SV.val (r10.v) = SV.val (r10.v) ∧ True) ∧ ((some (⟨31, .fixed [.val (.bool r3.re.neg), .val (r3.re.mag.v), .val (.bool r3.im.neg), .val (r3.im.mag.v), .val (r3.under.v)]⟩) : Option OB) = some (⟨31, .fixed [.val (.bool r3.re.neg), .val (r3.re.mag.v), .val (.bool r3.im.neg), .val (r3.im.mag.v), .val (r3.under.v)]⟩) ∧ True)) ∧ I_waveportlaw07_TransformReal_1 (C_waveportlaw07_TransformReal_1.mk r8 r10 r3.re.neg r3.re.mag r3.im.neg r3.im.mag r3.under) x9 V8)) ∧
        (true = false →
        ((((r10.len : Int) : Int) == 0) = true →
          R (.bool false) V8) ∧
        ((((r10.len : Int) : Int) == 0) = false →
          ∃ x10 : L_waveportlaw07_TransformReal_1, ((SV.own 8 0 = SV.own 8 0 ∧ SV.val (r8.v) = SV.val (r8.v) ∧ SV.val (r10.v) = SV.val (r10.v) ∧ True) ∧ ((some (⟨31, .fixed [.val (.bool r3.re.neg), .val (r3.re.mag.v), .val (.bool r3.im.neg), .val (r3.im.mag.v), .val (r3.under.v)]⟩) : Option OB) = some (⟨31, .fixed [.val (.bool r3.re.neg), .val (r3.re.mag.v), .val (.bool r3.im.neg), .val (r3.im.mag.v), .val (r3.under.v)]⟩) ∧ True)) ∧ I_waveportlaw07_TransformReal_1 (C_waveportlaw07_TransformReal_1.mk r8 r10 r3.re.neg r3.re.mag r3.im.neg r3.im.mag r3.under) x10 V8))) ∧
        (((r11 : Int) != 0) = false →
        ((((r10.len : Int) : Int) != (r6.len : Int)) = true →
        (true = true →
          R (.bool false) V8) ∧
        (true = false →
          ∃ x11 : L_waveportlaw07_TransformReal_1, ((SV.own 8 0 = SV.own 8 0 ∧ SV.val (r8.v) = SV.val (r8.v) ∧ SV.val (r10.v) = SV.val (r10.v) ∧ True) ∧ ((some (⟨31, .fixed [.val (.bool r3.re.neg), .val (r3.re.mag.v), .val (.bool r3.im.neg), .val (r3.im.mag.v), .val (r3.under.v)]⟩) : Option OB) = some (⟨31, .fixed [.val (.bool r3.re.neg), .val (r3.re.mag.v), .val (.bool r3.im.neg), .val (r3.im.mag.v), .val (r3.under.v)]⟩) ∧ True)) ∧ I_waveportlaw07_TransformReal_1 (C_waveportlaw07_TransformReal_1.mk r8 r10 r3.re.neg r3.re.mag r3.im.neg r3.im.mag r3.under) x11 V8)) ∧
        ((((r10.len : Int) : Int) != (r6.len : Int)) = false →
        ((((r10.len : Int) : Int) == 0) = true →
          R (.bool false) V8) ∧
        ((((r10.len : Int) : Int) == 0) = false →
          ∃ x12 : L_waveportlaw07_TransformReal_1, ((SV.own 8 0 = SV.own 8 0 ∧ SV.val (r8.v) = SV.val (r8.v) ∧ SV.val (r10.v) = SV.val (r10.v) ∧ True) ∧ ((some (⟨31, .fixed [.val (.bool r3.re.neg), .val (r3.re.mag.v), .val (.bool r3.im.neg), .val (r3.im.mag.v), .val (r3.under.v)]⟩) : Option OB) = some (⟨31, .fixed [.val (.bool r3.re.neg), .val (r3.re.mag.v), .val (.bool r3.im.neg), .val (r3.im.mag.v), .val (r3.under.v)]⟩) ∧ True)) ∧ I_waveportlaw07_TransformReal_1 (C_waveportlaw07_TransformReal_1.mk r8 r10 r3.re.neg r3.re.mag r3.im.neg r3.im.mag r3.under) x12 V8))))) ∧
        (true = false →
        (((r9 : Int) != 0) = true →
        (true = true →
        (true = true →
        (true = true →
          R (.bool false) V8) ∧
        (true = false →
          ∃ x13 : L_waveportlaw07_TransformReal_1, ((SV.own 8 0 = SV.own 8 0 ∧ SV.val (r8.v) = SV.val (r8.v) ∧ SV.val (r10.v) = SV.val (r10.v) ∧ True) ∧ ((some (⟨31, .fixed [.val (.bool r3.re.neg), .val (r3.re.mag.v), .val (.bool r3.im.neg), .val (r3.im.mag.v), .val (r3.under.v)]⟩) : Option OB) = some (⟨31, .fixed [.val (.bool r3.re.neg), .val (r3.re.mag.v), .val (.bool r3.im.neg), .val (r3.im.mag.v), .val (r3.under.v)]⟩) ∧ True)) ∧ I_waveportlaw07_TransformReal_1 (C_waveportlaw07_TransformReal_1.mk r8 r10 r3.re.neg r3.re.mag r3.im.neg r3.im.mag r3.under) x13 V8)) ∧
        (true = false →
        ((((r10.len : Int) : Int) == 0) = true →
          R (.bool false) V8) ∧
        ((((r10.len : Int) : Int) == 0) = false →
          ∃ x14 : L_waveportlaw07_TransformReal_1, ((SV.own 8 0 = SV.own 8 0 ∧ SV.val (r8.v) = SV.val (r8.v) ∧ SV.val (r10.v) = SV.val (r10.v) ∧ True) ∧ ((some (⟨31, .fixed [.val (.bool r3.re.neg), .val (r3.re.mag.v), .val (.bool r3.im.neg), .val (r3.im.mag.v), .val (r3.under.v)]⟩) : Option OB) = some (⟨31, .fixed [.val (.bool r3.re.neg), .val (r3.re.mag.v), .val (.bool r3.im.neg), .val (r3.im.mag.v), .val (r3.under.v)]⟩) ∧ True)) ∧ I_waveportlaw07_TransformReal_1 (C_waveportlaw07_TransformReal_1.mk r8 r10 r3.re.neg r3.re.mag r3.im.neg r3.im.mag r3.under) x14 V8))) ∧
        (true = false →
        ((((r10.len : Int) : Int) != (r6.len : Int)) = true →
        (true = true →
          R (.bool false) V8) ∧
        (true = false →
          ∃ x15 : L_waveportlaw07_TransformReal_1, ((SV.own 8 0 = SV.own 8 0 ∧ SV.val (r8.v) = SV.val (r8.v) ∧ SV.val (r10.v) = SV.val (r10.v) ∧ True) ∧ ((some (⟨31, .fixed [.val (.bool r3.re.neg), .val (r3.re.mag.v), .val (.bool r3.im.neg), .val (r3.im.mag.v), .val (r3.under.v)]⟩) : Option OB) = some (⟨31, .fixed [.val (.bool r3.re.neg), .val (r3.re.mag.v), .val (.bool r3.im.neg), .val (r3.im.mag.v), .val (r3.under.v)]⟩) ∧ True)) ∧ I_waveportlaw07_TransformReal_1 (C_waveportlaw07_TransformReal_1.mk r8 r10 r3.re.neg r3.re.mag r3.im.neg r3.im.mag r3.under) x15 V8)) ∧
        ((((r10.len : Int) : Int) != (r6.len : Int)) = false →
        ((((r10.len : Int) : Int) == 0) = true →
          R (.bool false) V8) ∧
        ((((r10.len : Int) : Int) == 0) = false →
          ∃ x16 : L_waveportlaw07_TransformReal_1, ((SV.own 8 0 = SV.own 8 0 ∧ SV.val (r8.v) = SV.val (r8.v) ∧ SV.val (r10.v) = SV.val (r10.v) ∧ True) ∧ ((some (⟨31, .fixed [.val (.bool r3.re.neg), .val (r3.re.mag.v), .val (.bool r3.im.neg), .val (r3.im.mag.v), .val (r3.under.v)]⟩) : Option OB) = some (⟨31, .fixed [.val (.bool r3.re.neg), .val (r3.re.mag.v), .val (.bool r3.im.neg), .val (r3.im.mag.v), .val (r3.under.v)]⟩) ∧ True)) ∧ I_waveportlaw07_TransformReal_1 (C_waveportlaw07_TransformReal_1.mk r8 r10 r3.re.neg r3.re.mag r3.im.neg r3.im.mag r3.under) x16 V8)))) ∧
        (((r9 : Int) != 0) = false →
        (((r11 : Int) != 0) = true →
        (true = true →
        (true = true →
          R (.bool false) V8) ∧
        (true = false →
          ∃ x17 : L_waveportlaw07_TransformReal_1, ((SV.own 8 0 = SV.own 8 0 ∧ SV.val (r8.v) = SV.val (r8.v) ∧ SV.val (r10.v) = SV.val (r10.v) ∧ True) ∧ ((some (⟨31, .fixed [.val (.bool r3.re.neg), .val (r3.re.mag.v), .val (.bool r3.im.neg), .val (r3.im.mag.v), .val (r3.under.v)]⟩) : Option OB) = some (⟨31, .fixed [.val (.bool r3.re.neg), .val (r3.re.mag.v), .val (.bool r3.im.neg), .val (r3.im.mag.v), .val (r3.under.v)]⟩) ∧ True)) ∧ I_waveportlaw07_TransformReal_1 (C_waveportlaw07_TransformReal_1.mk r8 r10 r3.re.neg r3.re.mag r3.im.neg r3.im.mag r3.under) x17 V8)) ∧
        (true = false →
        ((((r10.len : Int) : Int) == 0) = true →
          R (.bool false) V8) ∧
        ((((r10.len : Int) : Int) == 0) = false →
          ∃ x18 : L_waveportlaw07_TransformReal_1, ((SV.own 8 0 = SV.own 8 0 ∧ SV.val (r8.v) = SV.val (r8.v) ∧ SV.val (r10.v) = SV.val (r10.v) ∧ True) ∧ ((some (⟨31, .fixed [.val (.bool r3.re.neg), .val (r3.re.mag.v), .val (.bool r3.im.neg), .val (r3.im.mag.v), .val (r3.under.v)]⟩) : Option OB) = some (⟨31, .fixed [.val (.bool r3.re.neg), .val (r3.re.mag.v), .val (.bool r3.im.neg), .val (r3.im.mag.v), .val (r3.under.v)]⟩) ∧ True)) ∧ I_waveportlaw07_TransformReal_1 (C_waveportlaw07_TransformReal_1.mk r8 r10 r3.re.neg r3.re.mag r3.im.neg r3.im.mag r3.under) x18 V8))) ∧
        (((r11 : Int) != 0) = false →
        ((((r10.len : Int) : Int) != (r6.len : Int)) = true →
        (true = true →
          R (.bool false) V8) ∧
        (true = false →
          ∃ x19 : L_waveportlaw07_TransformReal_1, ((SV.own 8 0 = SV.own 8 0 ∧ SV.val (r8.v) = SV.val (r8.v) ∧ SV.val (r10.v) = SV.val (r10.v) ∧ True) ∧ ((some (⟨31, .fixed [.val (.bool r3.re.neg), .val (r3.re.mag.v), .val (.bool r3.im.neg), .val (r3.im.mag.v), .val (r3.under.v)]⟩) : Option OB) = some (⟨31, .fixed [.val (.bool r3.re.neg), .val (r3.re.mag.v), .val (.bool r3.im.neg), .val (r3.im.mag.v), .val (r3.under.v)]⟩) ∧ True)) ∧ I_waveportlaw07_TransformReal_1 (C_waveportlaw07_TransformReal_1.mk r8 r10 r3.re.neg r3.re.mag r3.im.neg r3.im.mag r3.under) x19 V8)) ∧
        ((((r10.len : Int) : Int) != (r6.len : Int)) = false →
        ((((r10.len : Int) : Int) == 0) = true →
          R (.bool false) V8) ∧
        ((((r10.len : Int) : Int) == 0) = false →
          ∃ x20 : L_waveportlaw07_TransformReal_1, ((SV.own 8 0 = SV.own 8 0 ∧ SV.val (r8.v) = SV.val (r8.v) ∧ SV.val (r10.v) = SV.val (r10.v) ∧ True) ∧ ((some (⟨31, .fixed [.val (.bool r3.re.neg), .val (r3.re.mag.v), .val (.bool r3.im.neg), .val (r3.im.mag.v), .val (r3.under.v)]⟩) : Option OB) = some (⟨31, .fixed [.val (.bool r3.re.neg), .val (r3.re.mag.v), .val (.bool r3.im.neg), .val (r3.im.mag.v), .val (r3.under.v)]⟩) ∧ True)) ∧ I_waveportlaw07_TransformReal_1 (C_waveportlaw07_TransformReal_1.mk r8 r10 r3.re.neg r3.re.mag r3.im.neg r3.im.mag r3.under) x20 V8)))))) ∧
        (((r5 : Int) != 0) = false →
        (((r7 : Int) != 0) = true →
        (true = true →
        (true = true →
        (true = true →
        (true = true →
          R (.bool false) V8) ∧
        (true = false →
          ∃ x21 : L_waveportlaw07_TransformReal_1, ((SV.own 8 0 = SV.own 8 0 ∧ SV.val (r8.v) = SV.val (r8.v) ∧ SV.val (r10.v) = SV.val (r10.v) ∧ True) ∧ ((some (⟨31, .fixed [.val (.bool r3.re.neg), .val (r3.re.mag.v), .val (.bool r3.im.neg), .val (r3.im.mag.v), .val (r3.under.v)]⟩) : Option OB) = some (⟨31, .fixed [.val (.bool r3.re.neg), .val (r3.re.mag.v), .val (.bool r3.im.neg), .val (r3.im.mag.v), .val (r3.under.v)]⟩) ∧ True)) ∧ I_waveportlaw07_TransformReal_1 (C_waveportlaw07_TransformReal_1.mk r8 r10 r3.re.neg r3.re.mag r3.im.neg r3.im.mag r3.under) x21 V8)) ∧
        (true = false →
        ((((r10.len : Int) : Int) == 0) = true →
          R (.bool false) V8) ∧
        ((((r10.len : Int) : Int) == 0) = false →
          ∃ x22 : L_waveportlaw07_TransformReal_1, ((SV.own 8 0 = SV.own 8 0 ∧ SV.val (r8.v) = SV.val (r8.v) ∧ SV.val (r10.v) = SV.val (r10.v) ∧ True) ∧ ((some (⟨31, .fixed [.val (.bool r3.re.neg), .val (r3.re.mag.v), .val (.bool r3.im.neg), .val (r3.im.mag.v), .val (r3.under.v)]⟩) : Option OB) = some (⟨31, .fixed [.val (.bool r3.re.neg), .val (r3.re.mag.v), .val (.bool r3.im.neg), .val (r3.im.mag.v), .val (r3.under.v)]⟩) ∧ True)) ∧ I_waveportlaw07_TransformReal_1 (C_waveportlaw07_TransformReal_1.mk r8 r10 r3.re.neg r3.re.mag r3.im.neg r3.im.mag r3.under) x22 V8))) ∧
        (true = false →
        ((((r10.len : Int) : Int) != (r6.len : Int)) = true →
        (true = true →
          R (.bool false) V8) ∧
        (true = false →
          ∃ x23 : L_waveportlaw07_TransformReal_1, ((SV.own 8 0 = SV.own 8 0 ∧ SV.val (r8.v) = SV.val (r8.v) ∧ SV.val (r10.v) = SV.val (r10.v) ∧ True) ∧ ((some (⟨31, .fixed [.val (.bool r3.re.neg), .val (r3.re.mag.v), .val (.bool r3.im.neg), .val (r3.im.mag.v), .val (r3.under.v)]⟩) : Option OB) = some (⟨31, .fixed [.val (.bool r3.re.neg), .val (r3.re.mag.v), .val (.bool r3.im.neg), .val (r3.im.mag.v), .val (r3.under.v)]⟩) ∧ True)) ∧ I_waveportlaw07_TransformReal_1 (C_waveportlaw07_TransformReal_1.mk r8 r10 r3.re.neg r3.re.mag r3.im.neg r3.im.mag r3.under) x23 V8)) ∧
        ((((r10.len : Int) : Int) != (r6.len : Int)) = false →
        ((((r10.len : Int) : Int) == 0) = true →
          R (.bool false) V8) ∧
        ((((r10.len : Int) : Int) == 0) = false →
          ∃ x24 : L_waveportlaw07_TransformReal_1, ((SV.own 8 0 = SV.own 8 0 ∧ SV.val (r8.v) = SV.val (r8.v) ∧ SV.val (r10.v) = SV.val (r10.v) ∧ True) ∧ ((some (⟨31, .fixed [.val (.bool r3.re.neg), .val (r3.re.mag.v), .val (.bool r3.im.neg), .val (r3.im.mag.v), .val (r3.under.v)]⟩) : Option OB) = some (⟨31, .fixed [.val (.bool r3.re.neg), .val (r3.re.mag.v), .val (.bool r3.im.neg), .val (r3.im.mag.v), .val (r3.under.v)]⟩) ∧ True)) ∧ I_waveportlaw07_TransformReal_1 (C_waveportlaw07_TransformReal_1.mk r8 r10 r3.re.neg r3.re.mag r3.im.neg r3.im.mag r3.under) x24 V8)))) ∧
        (true = false →
        (((r11 : Int) != 0) = true →
        (true = true →
        (true = true →
          R (.bool false) V8) ∧
        (true = false →
          ∃ x25 : L_waveportlaw07_TransformReal_1, ((SV.own 8 0 = SV.own 8 0 ∧ SV.val (r8.v) = SV.val (r8.v) ∧ SV.val (r10.v) = SV.val (r10.v) ∧ True) ∧ ((some (⟨31, .fixed [.val (.bool r3.re.neg), .val (r3.re.mag.v), .val (.bool r3.im.neg), .val (r3.im.mag.v), .val (r3.under.v)]⟩) : Option OB) = some (⟨31, .fixed [.val (.bool r3.re.neg), .val (r3.re.mag.v), .val (.bool r3.im.neg), .val (r3.im.mag.v), .val (r3.under.v)]⟩) ∧ True)) ∧ I_waveportlaw07_TransformReal_1 (C_waveportlaw07_TransformReal_1.mk r8 r10 r3.re.neg r3.re.mag r3.im.neg r3.im.mag r3.under) x25 V8)) ∧
        (true = false →
        ((((r10.len : Int) : Int) == 0) = true →
          R (.bool false) V8) ∧
        ((((r10.len : Int) : Int) == 0) = false →
          ∃ x26 : L_waveportlaw07_TransformReal_1, ((SV.own 8 0 = SV.own 8 0 ∧ SV.val (r8.v) = SV.val (r8.v) ∧ SV.val (r10.v) = SV.val (r10.v) ∧ True) ∧ ((some (⟨31, .fixed [.val (.bool r3.re.neg), .val (r3.re.mag.v), .val (.bool r3.im.neg), .val (r3.im.mag.v), .val (r3.under.v)]⟩) : Option OB) = some (⟨31, .fixed [.val (.bool r3.re.neg), .val (r3.re.mag.v), .val (.bool r3.im.neg), .val (r3.im.mag.v), .val (r3.under.v)]⟩) ∧ True)) ∧ I_waveportlaw07_TransformReal_1 (C_waveportlaw07_TransformReal_1.mk r8 r10 r3.re.neg r3.re.mag r3.im.neg r3.im.mag r3.under) x26 V8))) ∧
        (((r11 : Int) != 0) = false →
        ((((r10.len : Int) : Int) != (r6.len : Int)) = true →
        (true = true →
          R (.bool false) V8) ∧
        (true = false →
          ∃ x27 : L_waveportlaw07_TransformReal_1, ((SV.own 8 0 = SV.own 8 0 ∧ SV.val (r8.v) = SV.val (r8.v) ∧ SV.val (r10.v) = SV.val (r10.v) ∧ True) ∧ ((some (⟨31, .fixed [.val (.bool r3.re.neg), .val (r3.re.mag.v), .val (.bool r3.im.neg), .val (r3.im.mag.v), .val (r3.under.v)]⟩) : Option OB) = some (⟨31, .fixed [.val (.bool r3.re.neg), .val (r3.re.mag.v), .val (.bool r3.im.neg), .val (r3.im.mag.v), .val (r3.under.v)]⟩) ∧ True)) ∧ I_waveportlaw07_TransformReal_1 (C_waveportlaw07_TransformReal_1.mk r8 r10 r3.re.neg r3.re.mag r3.im.neg r3.im.mag r3.under) x27 V8)) ∧
        ((((r10.len : Int) : Int) != (r6.len : Int)) = false →
        ((((r10.len : Int) : Int) == 0) = true →
          R (.bool false) V8) ∧
        ((((r10.len : Int) : Int) == 0) = false →
          ∃ x28 : L_waveportlaw07_TransformReal_1, ((SV.own 8 0 = SV.own 8 0 ∧ SV.val (r8.v) = SV.val (r8.v) ∧ SV.val (r10.v) = SV.val (r10.v) ∧ True) ∧ ((some (⟨31, .fixed [.val (.bool r3.re.neg), .val (r3.re.mag.v), .val (.bool r3.im.neg), .val (r3.im.mag.v), .val (r3.under.v)]⟩) : Option OB) = some (⟨31, .fixed [.val (.bool r3.re.neg), .val (r3.re.mag.v), .val (.bool r3.im.neg), .val (r3.im.mag.v), .val (r3.under.v)]⟩) ∧ True)) ∧ I_waveportlaw07_TransformReal_1 (C_waveportlaw07_TransformReal_1.mk r8 r10 r3.re.neg r3.re.mag r3.im.neg r3.im.mag r3.under) x28 V8))))) ∧
        (((r7 : Int) != 0) = false →
        (((r9 : Int) != 0) = true →
        (true = true →
        (true = true →
        (true = true →
          R (.bool false) V8) ∧
        (true = false →
          ∃ x29 : L_waveportlaw07_TransformReal_1, ((SV.own 8 0 = SV.own 8 0 ∧ SV.val (r8.v) = SV.val (r8.v) ∧ SV.val (r10.v) = SV.val (r10.v) ∧ True) ∧ ((some (⟨31, .fixed [.val (.bool r3.re.neg), .val (r3.re.mag.v), .val (.bool r3.im.neg), .val (r3.im.mag.v), .val (r3.under.v)]⟩) : Option OB) = some (⟨31, .fixed [.val (.bool r3.re.neg), .val (r3.re.mag.v), .val (.bool r3.im.neg), .val (r3.im.mag.v), .val (r3.under.v)]⟩) ∧ True)) ∧ I_waveportlaw07_TransformReal_1 (C_waveportlaw07_TransformReal_1.mk r8 r10 r3.re.neg r3.re.mag r3.im.neg r3.im.mag r3.under) x29 V8)) ∧
        (true = false →
        ((((r10.len : Int) : Int) == 0) = true →
          R (.bool false) V8) ∧
        ((((r10.len : Int) : Int) == 0) = false →
          ∃ x30 : L_waveportlaw07_TransformReal_1, ((SV.own 8 0 = SV.own 8 0 ∧ SV.val (r8.v) = SV.val (r8.v) ∧ SV.val (r10.v) = SV.val (r10.v) ∧ True) ∧ ((some (⟨31, .fixed [.val (.bool r3.re.neg), .val (r3.re.mag.v), .val (.bool r3.im.neg), .val (r3.im.mag.v), .val (r3.under.v)]⟩) : Option OB) = some (⟨31, .fixed [.val (.bool r3.re.neg), .val (r3.re.mag.v), .val (.bool r3.im.neg), .val (r3.im.mag.v), .val (r3.under.v)]⟩) ∧ True)) ∧ I_waveportlaw07_TransformReal_1 (C_waveportlaw07_TransformReal_1.mk r8 r10 r3.re.neg r3.re.mag r3.im.neg r3.im.mag r3.under) x30 V8))) ∧
        (true = false →
        ((((r10.len : Int) : Int) != (r6.len : Int)) = true →
        (true = true →
          R (.bool false) V8) ∧
        (true = false →
          ∃ x31 : L_waveportlaw07_TransformReal_1, ((SV.own 8 0 = SV.own 8 0 ∧ SV.val (r8.v) = SV.val (r8.v) ∧ SV.val (r10.v) = SV.val (r10.v) ∧ True) ∧ ((some (⟨31, .fixed [.val (.bool r3.re.neg), .val (r3.re.mag.v), .val (.bool r3.im.neg), .val (r3.im.mag.v), .val (r3.under.v)]⟩) : Option OB) = some (⟨31, .fixed [.val (.bool r3.re.neg), .val (r3.re.mag.v), .val (.bool r3.im.neg), .val (r3.im.mag.v), .val (r3.under.v)]⟩) ∧ True)) ∧ I_waveportlaw07_TransformReal_1 (C_waveportlaw07_TransformReal_1.mk r8 r10 r3.re.neg r3.re.mag r3.im.neg r3.im.mag r3.under) x31 V8)) ∧
        ((((r10.len : Int) : Int) != (r6.len : Int)) = false →
        ((((r10.len : Int) : Int) == 0) = true →
          R (.bool false) V8) ∧
        ((((r10.len : Int) : Int) == 0) = false →
          ∃ x32 : L_waveportlaw07_TransformReal_1, ((SV.own 8 0 = SV.own 8 0 ∧ SV.val (r8.v) = SV.val (r8.v) ∧ SV.val (r10.v) = SV.val (r10.v) ∧ True) ∧ ((some (⟨31, .fixed [.val (.bool r3.re.neg), .val (r3.re.mag.v), .val (.bool r3.im.neg), .val (r3.im.mag.v), .val (r3.under.v)]⟩) : Option OB) = some (⟨31, .fixed [.val (.bool r3.re.neg), .val (r3.re.mag.v), .val (.bool r3.im.neg), .val (r3.im.mag.v), .val (r3.under.v)]⟩) ∧ True)) ∧ I_waveportlaw07_TransformReal_1 (C_waveportlaw07_TransformReal_1.mk r8 r10 r3.re.neg r3.re.mag r3.im.neg r3.im.mag r3.under) x32 V8)))) ∧
        (((r9 : Int) != 0) = false →
        (((r11 : Int) != 0) = true →
        (true = true →
        (true = true →
          R (.bool false) V8) ∧
        (true = false →
          ∃ x33 : L_waveportlaw07_TransformReal_1, ((SV.own 8 0 = SV.own 8 0 ∧ SV.val (r8.v) = SV.val (r8.v) ∧ SV.val (r10.v) = SV.val (r10.v) ∧ True) ∧ ((some (⟨31, .fixed [.val (.bool r3.re.neg), .val (r3.re.mag.v), .val (.bool r3.im.neg), .val (r3.im.mag.v), .val (r3.under.v)]⟩) : Option OB) = some (⟨31, .fixed [.val (.bool r3.re.neg), .val (r3.re.mag.v), .val (.bool r3.im.neg), .val (r3.im.mag.v), .val (r3.under.v)]⟩) ∧ True)) ∧ I_waveportlaw07_TransformReal_1 (C_waveportlaw07_TransformReal_1.mk r8 r10 r3.re.neg r3.re.mag r3.im.neg r3.im.mag r3.under) x33 V8)) ∧
        (true = false →
        ((((r10.len : Int) : Int) == 0) = true →
          R (.bool false) V8) ∧
        ((((r10.len : Int) : Int) == 0) = false →
          ∃ x34 : L_waveportlaw07_TransformReal_1, ((SV.own 8 0 = SV.own 8 0 ∧ SV.val (r8.v) = SV.val (r8.v) ∧ SV.val (r10.v) = SV.val (r10.v) ∧ True) ∧ ((some (⟨31, .fixed [.val (.bool r3.re.neg), .val (r3.re.mag.v), .val (.bool r3.im.neg), .val (r3.im.mag.v), .val (r3.under.v)]⟩) : Option OB) = some (⟨31, .fixed [.val (.bool r3.re.neg), .val (r3.re.mag.v), .val (.bool r3.im.neg), .val (r3.im.mag.v), .val (r3.under.v)]⟩) ∧ True)) ∧ I_waveportlaw07_TransformReal_1 (C_waveportlaw07_TransformReal_1.mk r8 r10 r3.re.neg r3.re.mag r3.im.neg r3.im.mag r3.under) x34 V8))) ∧
        (((r11 : Int) != 0) = false →
        ((((r10.len : Int) : Int) != (r6.len : Int)) = true →
        (true = true →
          R (.bool false) V8) ∧
        (true = false →
          ∃ x35 : L_waveportlaw07_TransformReal_1, ((SV.own 8 0 = SV.own 8 0 ∧ SV.val (r8.v) = SV.val (r8.v) ∧ SV.val (r10.v) = SV.val (r10.v) ∧ True) ∧ ((some (⟨31, .fixed [.val (.bool r3.re.neg), .val (r3.re.mag.v), .val (.bool r3.im.neg), .val (r3.im.mag.v), .val (r3.under.v)]⟩) : Option OB) = some (⟨31, .fixed [.val (.bool r3.re.neg), .val (r3.re.mag.v), .val (.bool r3.im.neg), .val (r3.im.mag.v), .val (r3.under.v)]⟩) ∧ True)) ∧ I_waveportlaw07_TransformReal_1 (C_waveportlaw07_TransformReal_1.mk r8 r10 r3.re.neg r3.re.mag r3.im.neg r3.im.mag r3.under) x35 V8)) ∧
        ((((r10.len : Int) : Int) != (r6.len : Int)) = false →
        ((((r10.len : Int) : Int) == 0) = true →
          R (.bool false) V8) ∧
        ((((r10.len : Int) : Int) == 0) = false →
          ∃ x36 : L_waveportlaw07_TransformReal_1, ((SV.own 8 0 = SV.own 8 0 ∧ SV.val (r8.v) = SV.val (r8.v) ∧ SV.val (r10.v) = SV.val (r10.v) ∧ True) ∧ ((some (⟨31, .fixed [.val (.bool r3.re.neg), .val (r3.re.mag.v), .val (.bool r3.im.neg), .val (r3.im.mag.v), .val (r3.under.v)]⟩) : Option OB) = some (⟨31, .fixed [.val (.bool r3.re.neg), .val (r3.re.mag.v), .val (.bool r3.im.neg), .val (r3.im.mag.v), .val (r3.under.v)]⟩) ∧ True)) ∧ I_waveportlaw07_TransformReal_1 (C_waveportlaw07_TransformReal_1.mk r8 r10 r3.re.neg r3.re.mag r3.im.neg r3.im.mag r3.under) x36 V8))))))) ∧
      (∀ (x4 : L_waveportlaw07_TransformReal_1) (V9 : View), View.le V8 V9 → I_waveportlaw07_TransformReal_1 (C_waveportlaw07_TransformReal_1.mk r8 r10 r3.re.neg r3.re.mag r3.im.neg r3.im.mag r3.under) x4 V9 →
        (∃ x37 : L_waveportlaw07_TransformReal_2, ((SV.own 8 0 = SV.own 8 0 ∧ SV.val (r10.v) = SV.val (r10.v) ∧ SV.val (r8.v) = SV.val (r8.v) ∧ SV.val (.int .i64 (r8.len : Int)) = SV.val (.int .i64 (r8.len : Int)) ∧ SV.val (.int .i64 0) = SV.val (.int .i64 x37.t82) ∧ True) ∧ ((some (⟨31, .fixed [.val (.bool r3.re.neg), .val (r3.re.mag.v), .val (.bool r3.im.neg), .val (r3.im.mag.v), .val (r3.under.v)]⟩) : Option OB) = some (⟨31, .fixed [.val (.bool r3.re.neg), .val (r3.re.mag.v), .val (.bool r3.im.neg), .val (r3.im.mag.v), .val (r3.under.v)]⟩) ∧ True)) ∧ I_waveportlaw07_TransformReal_2 (C_waveportlaw07_TransformReal_2.mk r10 r8 (r8.len : Int) r3.re.neg r3.re.mag r3.im.neg r3.im.mag r3.under) x37 V9) ∧
        (∀ (x38 : L_waveportlaw07_TransformReal_2) (V10 : View), View.le V9 V10 → I_waveportlaw07_TransformReal_2 (C_waveportlaw07_TransformReal_2.mk r10 r8 (r8.len : Int) r3.re.neg r3.re.mag r3.im.neg r3.im.mag r3.under) x38 V10 →
          ((decide ((x38.t82 : Int) < (r8.len : Int))) = true →
            ((0 : Int) ≤ x38.t82 ∧ (x38.t82 : Int) < (r8.len : Nat) ∧ Option.isSome r8.a = true) ∧
          ∃ x39 : NumV, View.has V10 (Option.map (fun q => Addr.add q (Int.toNat x38.t82 * 5)) r8.a) (x39.val).cells.toList ∧ Option.isSome (Option.map (fun q => Addr.add q (Int.toNat x38.t82 * 5)) r8.a) = true ∧
          CallV Try.prog 12 #[x39.val] V10 fun v V11 => ∃ r12 : Bool, v = .bool r12 ∧ -- (num.Num).Real
          ((!r12) = true →
            R (.bool false) V11) ∧
          ((!r12) = false →
            ∃ x40 : L_waveportlaw07_TransformReal_2, ((SV.own 8 0 = SV.own 8 0 ∧ SV.val (r10.v) = SV.val (r10.v) ∧ SV.val (r8.v) = SV.val (r8.v) ∧ SV.val (.int .i64 (r8.len : Int)) = SV.val (.int .i64 (r8.len : Int)) ∧ SV.val (.int .i64 (IntKind.i64.wrap (x38.t82 + 1))) = SV.val (.int .i64 x40.t82) ∧ True) ∧ ((some (⟨31, .fixed [.val (.bool r3.re.neg), .val (r3.re.mag.v), .val (.bool r3.im.neg), .val (r3.im.mag.v), .val (r3.under.v)]⟩) : Option OB) = some (⟨31, .fixed [.val (.bool r3.re.neg), .val (r3.re.mag.v), .val (.bool r3.im.neg), .val (r3.im.mag.v), .val (r3.under.v)]⟩) ∧ True)) ∧ I_waveportlaw07_TransformReal_2 (C_waveportlaw07_TransformReal_2.mk r10 r8 (r8.len : Int) r3.re.neg r3.re.mag r3.im.neg r3.im.mag r3.under) x40 V11 ∧ mu_waveportlaw07_TransformReal_2 (C_waveportlaw07_TransformReal_2.mk r10 r8 (r8.len : Int) r3.re.neg r3.re.mag r3.im.neg r3.im.mag r3.under) x40 V11 < mu_waveportlaw07_TransformReal_2 (C_waveportlaw07_TransformReal_2.mk r10 r8 (r8.len : Int) r3.re.neg r3.re.mag r3.im.neg r3.im.mag r3.under) x38 V10)) ∧
          ((decide ((x38.t82 : Int) < (r8.len : Int))) = false →
            ((0 : Int) ≤ (IntKind.i64.wrap ((r10.len : Int) - 1)) ∧ ((IntKind.i64.wrap ((r10.len : Int) - 1)) : Int) < (r10.len : Nat) ∧ Option.isSome r10.a = true) ∧
        ∃ x41 : NumV, View.has V10 (Option.map (fun q => Addr.add q (Int.toNat (IntKind.i64.wrap ((r10.len : Int) - 1)) * 5)) r10.a) (x41.val).cells.toList ∧ Option.isSome (Option.map (fun q => Addr.add q (Int.toNat (IntKind.i64.wrap ((r10.len : Int) - 1)) * 5)) r10.a) = true ∧
        CallV Try.prog 15 #[x41.val, r3.val] V10 fun v V12 => ∃ r13 : Bool, v = .bool r13 ∧ -- (num.Num).Same
        (r13 = true →
        CallV Try.prog 16 #[] V12 fun v V13 => ∃ r14 : Bool, v = .bool r14 ∧ -- waveportlaw07.awake
        R (.bool r14) V13) ∧
        (r13 = false →
        R (.bool false) V12))))) from ⟨⟨fun h5 => (CallV.mono (h.1.1 h5) (fun _ _ _ ⟨r1, h4, h3⟩ => ⟨r1, h4, (CallV.mono h3 (fun _ _ _ ⟨r2, h2, h1⟩ => ⟨r2, h2, ⟨(L_waveportlaw07_TransformReal_0.mk r2), ⟨⟨rfl, rfl, trivial⟩, ⟨rfl, trivial⟩⟩, h1⟩⟩))⟩)), fun h5 => ⟨(L_waveportlaw07_TransformReal_0.mk (Sl.mk none 0 0)), ⟨⟨rfl, rfl, trivial⟩, ⟨rfl, trivial⟩⟩, (h.1.2 h5)⟩⟩, fun x1 V1 h98 h99 => (CallV.mono (h.2 x1 V1 h98 h99) (fun _ _ _ ⟨r3, h97, h96⟩ => ⟨r3, h97, (CallV.mono h96 (fun _ _ _ ⟨r4, r5, h95, h94⟩ => ⟨r4, r5, h95, (CallV.mono h94 (fun _ _ _ ⟨r6, r7, h93, h92⟩ => ⟨r6, r7, h93, (CallV.mono h92 (fun _ _ _ ⟨r8, r9, h91, h90⟩ => ⟨r8, r9, h91, (CallV.mono h90 (fun _ _ _ ⟨r10, r11, h89, h88⟩ => ⟨r10, r11, h89, ⟨⟨fun h68 => ⟨fun h36 => ⟨fun h20 => ⟨fun h12 => ⟨fun h8 => ⟨fun h6 => ((((((h88.1.1 h68).1 h36).1 h20).1 h12).1 h8).1 h6), fun h6 => ⟨(L_waveportlaw07_TransformReal_1.mk ()), ⟨⟨rfl, rfl, rfl, trivial⟩, ⟨rfl, trivial⟩⟩, ((((((h88.1.1 h68).1 h36).1 h20).1 h12).1 h8).2 h6)⟩⟩, fun h8 => ⟨fun h7 => ((((((h88.1.1 h68).1 h36).1 h20).1 h12).2 h8).1 h7), fun h7 => ⟨(L_waveportlaw07_TransformReal_1.mk ()), ⟨⟨rfl, rfl, rfl, trivial⟩, ⟨rfl, trivial⟩⟩, ((((((h88.1.1 h68).1 h36).1 h20).1 h12).2 h8).2 h7)⟩⟩⟩, fun h12 => ⟨fun h11 => ⟨fun h9 => ((((((h88.1.1 h68).1 h36).1 h20).2 h12).1 h11).1 h9), fun h9 => ⟨(L_waveportlaw07_TransformReal_1.mk ()), ⟨⟨rfl, rfl, rfl, trivial⟩, ⟨rfl, trivial⟩⟩, ((((((h88.1.1 h68).1 h36).1 h20).2 h12).1 h11).2 h9)⟩⟩, fun h11 => ⟨fun h10 => ((((((h88.1.1 h68).1 h36).1 h20).2 h12).2 h11).1 h10), fun h10 => ⟨(L_waveportlaw07_TransformReal_1.mk ()), ⟨⟨rfl, rfl, rfl, trivial⟩, ⟨rfl, trivial⟩⟩, ((((((h88.1.1 h68).1 h36).1 h20).2 h12).2 h11).2 h10)⟩⟩⟩⟩, fun h20 => ⟨fun h19 => ⟨fun h15 => ⟨fun h13 => ((((((h88.1.1 h68).1 h36).2 h20).1 h19).1 h15).1 h13), fun h13 => ⟨(L_waveportlaw07_TransformReal_1.mk ()), ⟨⟨rfl, rfl, rfl, trivial⟩, ⟨rfl, trivial⟩⟩, ((((((h88.1.1 h68).1 h36).2 h20).1 h19).1 h15).2 h13)⟩⟩, fun h15 => ⟨fun h14 => ((((((h88.1.1 h68).1 h36).2 h20).1 h19).2 h15).1 h14), fun h14 => ⟨(L_waveportlaw07_TransformReal_1.mk ()), ⟨⟨rfl, rfl, rfl, trivial⟩, ⟨rfl, trivial⟩⟩, ((((((h88.1.1 h68).1 h36).2 h20).1 h19).2 h15).2 h14)⟩⟩⟩, fun h19 => ⟨fun h18 => ⟨fun h16 => ((((((h88.1.1 h68).1 h36).2 h20).2 h19).1 h18).1 h16), fun h16 => ⟨(L_waveportlaw07_TransformReal_1.mk ()), ⟨⟨rfl, rfl, rfl, trivial⟩, ⟨rfl, trivial⟩⟩, ((((((h88.1.1 h68).1 h36).2 h20).2 h19).1 h18).2 h16)⟩⟩, fun h18 => ⟨fun h17 => ((((((h88.1.1 h68).1 h36).2 h20).2 h19).2 h18).1 h17), fun h17 => ⟨(L_waveportlaw07_TransformReal_1.mk ()), ⟨⟨rfl, rfl, rfl, trivial⟩, ⟨rfl, trivial⟩⟩, ((((((h88.1.1 h68).1 h36).2 h20).2 h19).2 h18).2 h17)⟩⟩⟩⟩⟩, fun h36 => ⟨fun h35 => ⟨fun h27 => ⟨fun h23 => ⟨fun h21 => ((((((h88.1.1 h68).2 h36).1 h35).1 h27).1 h23).1 h21), fun h21 => ⟨(L_waveportlaw07_TransformReal_1.mk ()), ⟨⟨rfl, rfl, rfl, trivial⟩, ⟨rfl, trivial⟩⟩, ((((((h88.1.1 h68).2 h36).1 h35).1 h27).1 h23).2 h21)⟩⟩, fun h23 => ⟨fun h22 => ((((((h88.1.1 h68).2 h36).1 h35).1 h27).2 h23).1 h22), fun h22 => ⟨(L_waveportlaw07_TransformReal_1.mk ()), ⟨⟨rfl, rfl, rfl, trivial⟩, ⟨rfl, trivial⟩⟩, ((((((h88.1.1 h68).2 h36).1 h35).1 h27).2 h23).2 h22)⟩⟩⟩, fun h27 => ⟨fun h26 => ⟨fun h24 => ((((((h88.1.1 h68).2 h36).1 h35).2 h27).1 h26).1 h24), fun h24 => ⟨(L_waveportlaw07_TransformReal_1.mk ()), ⟨⟨rfl, rfl, rfl, trivial⟩, ⟨rfl, trivial⟩⟩, ((((((h88.1.1 h68).2 h36).1 h35).2 h27).1 h26).2 h24)⟩⟩, fun h26 => ⟨fun h25 => ((((((h88.1.1 h68).2 h36).1 h35).2 h27).2 h26).1 h25), fun h25 => ⟨(L_waveportlaw07_TransformReal_1.mk ()), ⟨⟨rfl, rfl, rfl, trivial⟩, ⟨rfl, trivial⟩⟩, ((((((h88.1.1 h68).2 h36).1 h35).2 h27).2 h26).2 h25)⟩⟩⟩⟩, fun h35 => ⟨fun h34 => ⟨fun h30 => ⟨fun h28 => ((((((h88.1.1 h68).2 h36).2 h35).1 h34).1 h30).1 h28), fun h28 => ⟨(L_waveportlaw07_TransformReal_1.mk ()), ⟨⟨rfl, rfl, rfl, trivial⟩, ⟨rfl, trivial⟩⟩, ((((((h88.1.1 h68).2 h36).2 h35).1 h34).1 h30).2 h28)⟩⟩, fun h30 => ⟨fun h29 => ((((((h88.1.1 h68).2 h36).2 h35).1 h34).2 h30).1 h29), fun h29 => ⟨(L_waveportlaw07_TransformReal_1.mk ()), ⟨⟨rfl, rfl, rfl, trivial⟩, ⟨rfl, trivial⟩⟩, ((((((h88.1.1 h68).2 h36).2 h35).1 h34).2 h30).2 h29)⟩⟩⟩, fun h34 => ⟨fun h33 => ⟨fun h31 => ((((((h88.1.1 h68).2 h36).2 h35).2 h34).1 h33).1 h31), fun h31 => ⟨(L_waveportlaw07_TransformReal_1.mk ()), ⟨⟨rfl, rfl, rfl, trivial⟩, ⟨rfl, trivial⟩⟩, ((((((h88.1.1 h68).2 h36).2 h35).2 h34).1 h33).2 h31)⟩⟩, fun h33 => ⟨fun h32 => ((((((h88.1.1 h68).2 h36).2 h35).2 h34).2 h33).1 h32), fun h32 => ⟨(L_waveportlaw07_TransformReal_1.mk ()), ⟨⟨rfl, rfl, rfl, trivial⟩, ⟨rfl, trivial⟩⟩, ((((((h88.1.1 h68).2 h36).2 h35).2 h34).2 h33).2 h32)⟩⟩⟩⟩⟩⟩, fun h68 => ⟨fun h67 => ⟨fun h51 => ⟨fun h43 => ⟨fun h39 => ⟨fun h37 => ((((((h88.1.2 h68).1 h67).1 h51).1 h43).1 h39).1 h37), fun h37 => ⟨(L_waveportlaw07_TransformReal_1.mk ()), ⟨⟨rfl, rfl, rfl, trivial⟩, ⟨rfl, trivial⟩⟩, ((((((h88.1.2 h68).1 h67).1 h51).1 h43).1 h39).2 h37)⟩⟩, fun h39 => ⟨fun h38 => ((((((h88.1.2 h68).1 h67).1 h51).1 h43).2 h39).1 h38), fun h38 => ⟨(L_waveportlaw07_TransformReal_1.mk ()), ⟨⟨rfl, rfl, rfl, trivial⟩, ⟨rfl, trivial⟩⟩, ((((((h88.1.2 h68).1 h67).1 h51).1 h43).2 h39).2 h38)⟩⟩⟩, fun h43 => ⟨fun h42 => ⟨fun h40 => ((((((h88.1.2 h68).1 h67).1 h51).2 h43).1 h42).1 h40), fun h40 => ⟨(L_waveportlaw07_TransformReal_1.mk ()), ⟨⟨rfl, rfl, rfl, trivial⟩, ⟨rfl, trivial⟩⟩, ((((((h88.1.2 h68).1 h67).1 h51).2 h43).1 h42).2 h40)⟩⟩, fun h42 => ⟨fun h41 => ((((((h88.1.2 h68).1 h67).1 h51).2 h43).2 h42).1 h41), fun h41 => ⟨(L_waveportlaw07_TransformReal_1.mk ()), ⟨⟨rfl, rfl, rfl, trivial⟩, ⟨rfl, trivial⟩⟩, ((((((h88.1.2 h68).1 h67).1 h51).2 h43).2 h42).2 h41)⟩⟩⟩⟩, fun h51 => ⟨fun h50 => ⟨fun h46 => ⟨fun h44 => ((((((h88.1.2 h68).1 h67).2 h51).1 h50).1 h46).1 h44), fun h44 => ⟨(L_waveportlaw07_TransformReal_1.mk ()), ⟨⟨rfl, rfl, rfl, trivial⟩, ⟨rfl, trivial⟩⟩, ((((((h88.1.2 h68).1 h67).2 h51).1 h50).1 h46).2 h44)⟩⟩, fun h46 => ⟨fun h45 => ((((((h88.1.2 h68).1 h67).2 h51).1 h50).2 h46).1 h45), fun h45 => ⟨(L_waveportlaw07_TransformReal_1.mk ()), ⟨⟨rfl, rfl, rfl, trivial⟩, ⟨rfl, trivial⟩⟩, ((((((h88.1.2 h68).1 h67).2 h51).1 h50).2 h46).2 h45)⟩⟩⟩, fun h50 => ⟨fun h49 => ⟨fun h47 => ((((((h88.1.2 h68).1 h67).2 h51).2 h50).1 h49).1 h47), fun h47 => ⟨(L_waveportlaw07_TransformReal_1.mk ()), ⟨⟨rfl, rfl, rfl, trivial⟩, ⟨rfl, trivial⟩⟩, ((((((h88.1.2 h68).1 h67).2 h51).2 h50).1 h49).2 h47)⟩⟩, fun h49 => ⟨fun h48 => ((((((h88.1.2 h68).1 h67).2 h51).2 h50).2 h49).1 h48), fun h48 => ⟨(L_waveportlaw07_TransformReal_1.mk ()), ⟨⟨rfl, rfl, rfl, trivial⟩, ⟨rfl, trivial⟩⟩, ((((((h88.1.2 h68).1 h67).2 h51).2 h50).2 h49).2 h48)⟩⟩⟩⟩⟩, fun h67 => ⟨fun h66 => ⟨fun h58 => ⟨fun h54 => ⟨fun h52 => ((((((h88.1.2 h68).2 h67).1 h66).1 h58).1 h54).1 h52), fun h52 => ⟨(L_waveportlaw07_TransformReal_1.mk ()), ⟨⟨rfl, rfl, rfl, trivial⟩, ⟨rfl, trivial⟩⟩, ((((((h88.1.2 h68).2 h67).1 h66).1 h58).1 h54).2 h52)⟩⟩, fun h54 => ⟨fun h53 => ((((((h88.1.2 h68).2 h67).1 h66).1 h58).2 h54).1 h53), fun h53 => ⟨(L_waveportlaw07_TransformReal_1.mk ()), ⟨⟨rfl, rfl, rfl, trivial⟩, ⟨rfl, trivial⟩⟩, ((((((h88.1.2 h68).2 h67).1 h66).1 h58).2 h54).2 h53)⟩⟩⟩, fun h58 => ⟨fun h57 => ⟨fun h55 => ((((((h88.1.2 h68).2 h67).1 h66).2 h58).1 h57).1 h55), fun h55 => ⟨(L_waveportlaw07_TransformReal_1.mk ()), ⟨⟨rfl, rfl, rfl, trivial⟩, ⟨rfl, trivial⟩⟩, ((((((h88.1.2 h68).2 h67).1 h66).2 h58).1 h57).2 h55)⟩⟩, fun h57 => ⟨fun h56 => ((((((h88.1.2 h68).2 h67).1 h66).2 h58).2 h57).1 h56), fun h56 => ⟨(L_waveportlaw07_TransformReal_1.mk ()), ⟨⟨rfl, rfl, rfl, trivial⟩, ⟨rfl, trivial⟩⟩, ((((((h88.1.2 h68).2 h67).1 h66).2 h58).2 h57).2 h56)⟩⟩⟩⟩, fun h66 => ⟨fun h65 => ⟨fun h61 => ⟨fun h59 => ((((((h88.1.2 h68).2 h67).2 h66).1 h65).1 h61).1 h59), fun h59 => ⟨(L_waveportlaw07_TransformReal_1.mk ()), ⟨⟨rfl, rfl, rfl, trivial⟩, ⟨rfl, trivial⟩⟩, ((((((h88.1.2 h68).2 h67).2 h66).1 h65).1 h61).2 h59)⟩⟩, fun h61 => ⟨fun h60 => ((((((h88.1.2 h68).2 h67).2 h66).1 h65).2 h61).1 h60), fun h60 => ⟨(L_waveportlaw07_TransformReal_1.mk ()), ⟨⟨rfl, rfl, rfl, trivial⟩, ⟨rfl, trivial⟩⟩, ((((((h88.1.2 h68).2 h67).2 h66).1 h65).2 h61).2 h60)⟩⟩⟩, fun h65 => ⟨fun h64 => ⟨fun h62 => ((((((h88.1.2 h68).2 h67).2 h66).2 h65).1 h64).1 h62), fun h62 => ⟨(L_waveportlaw07_TransformReal_1.mk ()), ⟨⟨rfl, rfl, rfl, trivial⟩, ⟨rfl, trivial⟩⟩, ((((((h88.1.2 h68).2 h67).2 h66).2 h65).1 h64).2 h62)⟩⟩, fun h64 => ⟨fun h63 => ((((((h88.1.2 h68).2 h67).2 h66).2 h65).2 h64).1 h63), fun h63 => ⟨(L_waveportlaw07_TransformReal_1.mk ()), ⟨⟨rfl, rfl, rfl, trivial⟩, ⟨rfl, trivial⟩⟩, ((((((h88.1.2 h68).2 h67).2 h66).2 h65).2 h64).2 h63)⟩⟩⟩⟩⟩⟩⟩, fun x4 V9 h86 h87 => ⟨⟨(L_waveportlaw07_TransformReal_2.mk 0), ⟨⟨rfl, rfl, rfl, rfl, rfl, trivial⟩, ⟨rfl, trivial⟩⟩, (h88.2 x4 V9 h86 h87).1⟩, fun x38 V10 h84 h85 => ⟨fun h83 => ⟨(((h88.2 x4 V9 h86 h87).2 x38 V10 h84 h85).1 h83).1, (match (((h88.2 x4 V9 h86 h87).2 x38 V10 h84 h85).1 h83).2 with | ⟨x39, h73, h74, h72⟩ => ⟨x39, h73, h74, (CallV.mono h72 (fun _ _ _ ⟨r12, h71, h70⟩ => ⟨r12, h71, ⟨fun h69 => (h70.1 h69), fun h69 => ⟨(L_waveportlaw07_TransformReal_2.mk (IntKind.i64.wrap (x38.t82 + 1))), ⟨⟨rfl, rfl, rfl, rfl, rfl, trivial⟩, ⟨rfl, trivial⟩⟩, (h70.2 h69).1, (h70.2 h69).2⟩⟩⟩))⟩)⟩, fun h83 => ⟨(((h88.2 x4 V9 h86 h87).2 x38 V10 h84 h85).2 h83).1, (match (((h88.2 x4 V9 h86 h87).2 x38 V10 h84 h85).2 h83).2 with | ⟨x41, h81, h82, h80⟩ => ⟨x41, h81, h82, (CallV.mono h80 (fun _ _ _ ⟨r13, h79, h78⟩ => ⟨r13, h79, ⟨fun h77 => (CallV.mono (h78.1 h77) (fun _ _ _ ⟨r14, h76, h75⟩ => ⟨r14, h76, h75⟩)), fun h77 => (h78.2 h77)⟩⟩))⟩)⟩⟩⟩⟩⟩))⟩))⟩))⟩))⟩))⟩))

end Go.Proofs.Ytnbjnokgmeamdaa
