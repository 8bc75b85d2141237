/- Part of the proof; it has the parts FReal. -/
import Derived.Test.YtcapadojlaojkaaFShf
set_option maxRecDepth 100000
set_option maxHeartbeats 4000000
namespace Go.Proofs.Ytcapadojlaojkaa
open Go Go.Vc Go.Proofs

structure L_transform_Steps_num_Num__0 where
  t14 : Int
  o11 : List Value
/-- waveport/transform.Steps[waveport/num.Num] -/
theorem transform_Steps_num_Num__vc (p0 : Sl) (V : View) (R : Value → View → Prop) (I_transform_Steps_num_Num__0 : Unit → L_transform_Steps_num_Num__0 → View → Prop) (mu_transform_Steps_num_Num__0 : Unit → L_transform_Steps_num_Num__0 → View → Nat)
  (h :
    ((decide (((p0.len : Int) : Int) > 64)) = true →
      R (.tuple #[(Sl.mk none 0 0).v, .int .i64 4]) V) ∧
    ((decide (((p0.len : Int) : Int) > 64)) = false →
      ((0 : Int) ≤ (p0.len : Int) ∧ ((p0.len : Int) : Int) ≤ (p0.len : Int) ∧ (88 : Int) * (p0.len : Int) ≤ 281474976710656 ∧ ((p0.len : Int) : Int) ≤ 9223372036854775807) ∧
    I_transform_Steps_num_Num__0 () (L_transform_Steps_num_Num__0.mk 0 ((List.replicate (Int.toNat (p0.len : Int)) [Value.bool false, Value.slice none 0 0, Value.bool false, Value.slice none 0 0, Value.slice none 0 0]).flatten)) V ∧
    (∀ (x2 : L_transform_Steps_num_Num__0) (V1 : View), View.le V V1 → I_transform_Steps_num_Num__0 () x2 V1 →
      ((decide ((x2.t14 : Int) < (p0.len : Int))) = true →
        ((0 : Int) ≤ x2.t14 ∧ (x2.t14 : Int) < (p0.len : Nat) ∧ Option.isSome p0.a = true) ∧
      ∃ x3 : NumV, View.has V1 (Option.map (fun q => Addr.add q (Int.toNat x2.t14 * 5)) p0.a) (x3.val).cells.toList ∧ Option.isSome (Option.map (fun q => Addr.add q (Int.toNat x2.t14 * 5)) p0.a) = true ∧
      ((0 : Int) ≤ x2.t14 ∧ (x2.t14 : Int) < (Int.toNat (p0.len : Int) : Nat)) ∧
      0 + Int.toNat x2.t14 * 5 + 5 ≤ List.length x2.o11 ∧
      ((decide ((x2.t14 : Int) > 0)) = true →
        ((0 : Int) ≤ (IntKind.i64.wrap (x2.t14 - 1)) ∧ ((IntKind.i64.wrap (x2.t14 - 1)) : Int) < (Int.toNat (p0.len : Int) : Nat)) ∧
        ∃ x4 : NumV, List.take 5 (List.drop (0 + Int.toNat (IntKind.i64.wrap (x2.t14 - 1)) * 5) (setL x2.o11 (0 + Int.toNat x2.t14 * 5) [.bool x3.re.neg, x3.re.mag.v, .bool x3.im.neg, x3.im.mag.v, x3.under.v])) = (x4.val).cells.toList ∧
        ((0 : Int) ≤ x2.t14 ∧ (x2.t14 : Int) < (p0.len : Nat) ∧ Option.isSome p0.a = true) ∧
        ∃ x5 : NumV, View.has V1 (Option.map (fun q => Addr.add q (Int.toNat x2.t14 * 5)) p0.a) (x5.val).cells.toList ∧ Option.isSome (Option.map (fun q => Addr.add q (Int.toNat x2.t14 * 5)) p0.a) = true ∧
        CallV Try.prog 102 #[x4.val, x5.val] V1 fun v V2 => ∃ r1 : NumV, v = r1.val ∧ -- (num.Num).Add
        ((0 : Int) ≤ x2.t14 ∧ (x2.t14 : Int) < (Int.toNat (p0.len : Int) : Nat)) ∧
        0 + Int.toNat x2.t14 * 5 + 5 ≤ List.length (setL x2.o11 (0 + Int.toNat x2.t14 * 5) [.bool x3.re.neg, x3.re.mag.v, .bool x3.im.neg, x3.im.mag.v, x3.under.v]) ∧
        I_transform_Steps_num_Num__0 () (L_transform_Steps_num_Num__0.mk (IntKind.i64.wrap (x2.t14 + 1)) (setL (setL x2.o11 (0 + Int.toNat x2.t14 * 5) [.bool x3.re.neg, x3.re.mag.v, .bool x3.im.neg, x3.im.mag.v, x3.under.v]) (0 + Int.toNat x2.t14 * 5) [.bool r1.re.neg, r1.re.mag.v, .bool r1.im.neg, r1.im.mag.v, r1.under.v])) V2 ∧ mu_transform_Steps_num_Num__0 () (L_transform_Steps_num_Num__0.mk (IntKind.i64.wrap (x2.t14 + 1)) (setL (setL x2.o11 (0 + Int.toNat x2.t14 * 5) [.bool x3.re.neg, x3.re.mag.v, .bool x3.im.neg, x3.im.mag.v, x3.under.v]) (0 + Int.toNat x2.t14 * 5) [.bool r1.re.neg, r1.re.mag.v, .bool r1.im.neg, r1.im.mag.v, r1.under.v])) V2 < mu_transform_Steps_num_Num__0 () x2 V1) ∧
      ((decide ((x2.t14 : Int) > 0)) = false →
        I_transform_Steps_num_Num__0 () (L_transform_Steps_num_Num__0.mk (IntKind.i64.wrap (x2.t14 + 1)) (setL x2.o11 (0 + Int.toNat x2.t14 * 5) [.bool x3.re.neg, x3.re.mag.v, .bool x3.im.neg, x3.im.mag.v, x3.under.v])) V1 ∧ mu_transform_Steps_num_Num__0 () (L_transform_Steps_num_Num__0.mk (IntKind.i64.wrap (x2.t14 + 1)) (setL x2.o11 (0 + Int.toNat x2.t14 * 5) [.bool x3.re.neg, x3.re.mag.v, .bool x3.im.neg, x3.im.mag.v, x3.under.v])) V1 < mu_transform_Steps_num_Num__0 () x2 V1)) ∧
      ((decide ((x2.t14 : Int) < (p0.len : Int))) = false →
        ∀ (b1 : Nat) (V3 : View), View.le V1 V3 → V3 b1 = some (List.toArray x2.o11) →
    R (.tuple #[(Sl.mk (some (Addr.mk b1 0 none)) (Int.toNat (p0.len : Int)) (Int.toNat (p0.len : Int))).v, .int .i64 0]) V3)))) :
  CallV Try.prog 41 #[p0.v] V R :=
  calls_of_vc (Shp := Shp) hmixed Try.func41 (c := Try.f41.body.getD .skip) (args := [p0.v]) (by kernel_rfl)
    (.seq (.reg [⟨2, 2, false⟩, ⟨3, 2, false⟩]) (.seq (.seq (.reg [⟨6, 2, false⟩, ⟨7, 0, false⟩, ⟨8, 0, false⟩]) (.cond (.seq (.reg [⟨2, 2, false⟩, ⟨3, 2, false⟩]) .leaf) .leaf)) (.seq (.reg [⟨9, 2, false⟩, ⟨10, 0, false⟩, ⟨11, 3, false⟩, ⟨4, 2, false⟩]) (.seq (.seq (.reg [⟨12, 2, false⟩, ⟨13, 0, false⟩, ⟨14, 2, false⟩]) (.block (.loop Unit L_transform_Steps_num_Num__0 (fun _ => ()) (fun c x => { tm := spT 42 0 [(0, .val (p0.v)), (4, .osl 11 0 (Int.toNat (p0.len : Int)) (Int.toNat (p0.len : Int))), (13, .val (.int .i64 (p0.len : Int))), (14, .val (.int .i64 x.t14))], own := spO 42 0 [(11, ⟨67, .dyn x.o11⟩)] }) I_transform_Steps_num_Num__0 mu_transform_Steps_num_Num__0 (.seq (.reg [⟨15, 0, false⟩]) (.seq (.cond .leaf .leaf) (.seq (.block (.seq (.reg [⟨16, 2, false⟩, ⟨5, 2, false⟩]) (.seq (.reg [⟨17, 2, false⟩, ⟨18, 2, false⟩, ⟨19, 2, false⟩, ⟨20, 2, false⟩, ⟨21, 7, false⟩, ⟨22, 5, false⟩, ⟨23, 7, false⟩, ⟨11, 6, false⟩]) (.seq (.reg [⟨24, 2, false⟩, ⟨25, 0, false⟩]) (.cond (.draw [(0, ⟨26, 2, false⟩), (1, ⟨27, 2, false⟩), (2, ⟨28, 2, false⟩), (3, ⟨29, 2, false⟩), (4, ⟨30, 0, false⟩), (5, ⟨31, 7, false⟩), (6, ⟨11, 4, false⟩), (7, ⟨33, 0, false⟩), (8, ⟨34, 2, false⟩), (9, ⟨35, 2, false⟩), (10, ⟨36, 7, false⟩), (11, ⟨37, 5, false⟩), (12, ⟨38, 10, false⟩), (13, ⟨39, 7, false⟩), (14, ⟨11, 6, false⟩)] [0, 0, 0, 0, 8, 28, 60, 124, 0, 0, 768, 1792, 4092, 8191, 16383]) .leaf))))) (.reg [⟨40, 0, false⟩, ⟨14, 2, false⟩]))))))) (.seq (.reg [⟨41, 2, false⟩, ⟨2, 2, false⟩, ⟨3, 2, false⟩]) (.pub 11 .leaf))))))
    (Eq.mpr (by kernel_rfl) (show ((decide (((p0.len : Int) : Int) > 64)) = true →
      R (.tuple #[(Sl.mk none 0 0).v, .int .i64 4]) V) ∧
    ((decide (((p0.len : Int) : Int) > 64)) = false →
      ((0 : Int) ≤ (p0.len : Int) ∧ ((p0.len : Int) : Int) ≤ (p0.len : Int) ∧ (88 : Int) * (p0.len : Int) ≤ 281474976710656 ∧ ((p0.len : Int) : Int) ≤ 9223372036854775807) ∧
    (∃ x1 : L_transform_Steps_num_Num__0, ((SV.val (p0.v) = SV.val (p0.v) ∧ SV.osl 11 0 (Int.toNat (p0.len : Int)) (Int.toNat (p0.len : Int)) = SV.osl 11 0 (Int.toNat (p0.len : Int)) (Int.toNat (p0.len : Int)) ∧ SV.val (.int .i64 (p0.len : Int)) = SV.val (.int .i64 (p0.len : Int)) ∧ SV.val (.int .i64 0) = SV.val (.int .i64 x1.t14) ∧ True) ∧ ((some (⟨67, .dyn ((List.replicate (Int.toNat (p0.len : Int)) [Value.bool false, Value.slice none 0 0, Value.bool false, Value.slice none 0 0, Value.slice none 0 0]).flatten)⟩) : Option OB) = some (⟨67, .dyn x1.o11⟩) ∧ True)) ∧ I_transform_Steps_num_Num__0 () x1 V) ∧
    (∀ (x2 : L_transform_Steps_num_Num__0) (V1 : View), View.le V V1 → I_transform_Steps_num_Num__0 () x2 V1 →
      ((decide ((x2.t14 : Int) < (p0.len : Int))) = true →
        ((0 : Int) ≤ x2.t14 ∧ (x2.t14 : Int) < (p0.len : Nat) ∧ Option.isSome p0.a = true) ∧
      ∃ x3 : NumV, View.has V1 (Option.map (fun q => Addr.add q (Int.toNat x2.t14 * 5)) p0.a) (x3.val).cells.toList ∧ Option.isSome (Option.map (fun q => Addr.add q (Int.toNat x2.t14 * 5)) p0.a) = true ∧
      ((0 : Int) ≤ x2.t14 ∧ (x2.t14 : Int) < (Int.toNat (p0.len : Int) : Nat)) ∧
      0 + Int.toNat x2.t14 * 5 + 5 ≤ List.length x2.o11 ∧
      ((decide ((x2.t14 : Int) > 0)) = true →
        ((0 : Int) ≤ (IntKind.i64.wrap (x2.t14 - 1)) ∧ ((IntKind.i64.wrap (x2.t14 - 1)) : Int) < (Int.toNat (p0.len : Int) : Nat)) ∧
        ∃ x4 : NumV, List.take 5 (List.drop (0 + Int.toNat (IntKind.i64.wrap (x2.t14 - 1)) * 5) (setL x2.o11 (0 + Int.toNat x2.t14 * 5) [.bool x3.re.neg, x3.re.mag.v, .bool x3.im.neg, x3.im.mag.v, x3.under.v])) = (x4.val).cells.toList ∧
        ((0 : Int) ≤ x2.t14 ∧ (x2.t14 : Int) < (p0.len : Nat) ∧ Option.isSome p0.a = true) ∧
        ∃ x5 : NumV, View.has V1 (Option.map (fun q => Addr.add q (Int.toNat x2.t14 * 5)) p0.a) (x5.val).cells.toList ∧ Option.isSome (Option.map (fun q => Addr.add q (Int.toNat x2.t14 * 5)) p0.a) = true ∧
        CallV Try.prog 102 #[x4.val, x5.val] V1 fun v V2 => ∃ r1 : NumV, v = r1.val ∧ -- (num.Num).Add
        ((0 : Int) ≤ x2.t14 ∧ (x2.t14 : Int) < (Int.toNat (p0.len : Int) : Nat)) ∧
        0 + Int.toNat x2.t14 * 5 + 5 ≤ List.length (setL x2.o11 (0 + Int.toNat x2.t14 * 5) [.bool x3.re.neg, x3.re.mag.v, .bool x3.im.neg, x3.im.mag.v, x3.under.v]) ∧
        ∃ x6 : L_transform_Steps_num_Num__0, ((SV.val (p0.v) = SV.val (p0.v) ∧ SV.osl 11 0 (Int.toNat (p0.len : Int)) (Int.toNat (p0.len : Int)) = SV.osl 11 0 (Int.toNat (p0.len : Int)) (Int.toNat (p0.len : Int)) ∧ SV.val (.int .i64 (p0.len : Int)) = SV.val (.int .i64 (p0.len : Int)) ∧ SV.val (.int .i64 (IntKind.i64.wrap (x2.t14 + 1))) = SV.val (.int .i64 x6.t14) ∧ True) ∧ ((some (⟨67, .dyn (setL (setL x2.o11 (0 + Int.toNat x2.t14 * 5) [.bool x3.re.neg, x3.re.mag.v, .bool x3.im.neg, x3.im.mag.v, x3.under.v]) (0 + Int.toNat x2.t14 * 5) [.bool r1.re.neg, r1.re.mag.v, .bool r1.im.neg, r1.im.mag.v, r1.under.v])⟩) : Option OB) = some (⟨67, .dyn x6.o11⟩) ∧ True)) ∧ I_transform_Steps_num_Num__0 () x6 V2 ∧ mu_transform_Steps_num_Num__0 () x6 V2 < mu_transform_Steps_num_Num__0 () x2 V1) ∧
      ((decide ((x2.t14 : Int) > 0)) = false →
        ∃ x7 : L_transform_Steps_num_Num__0, ((SV.val (p0.v) = SV.val (p0.v) ∧ SV.osl 11 0 (Int.toNat (p0.len : Int)) (Int.toNat (p0.len : Int)) = SV.osl 11 0 (Int.toNat (p0.len : Int)) (Int.toNat (p0.len : Int)) ∧ SV.val (.int .i64 (p0.len : Int)) = SV.val (.int .i64 (p0.len : Int)) ∧ SV.val (.int .i64 (IntKind.i64.wrap (x2.t14 + 1))) = SV.val (.int .i64 x7.t14) ∧ True) ∧ ((some (⟨67, .dyn (setL x2.o11 (0 + Int.toNat x2.t14 * 5) [.bool x3.re.neg, x3.re.mag.v, .bool x3.im.neg, x3.im.mag.v, x3.under.v])⟩) : Option OB) = some (⟨67, .dyn x7.o11⟩) ∧ True)) ∧ I_transform_Steps_num_Num__0 () x7 V1 ∧ mu_transform_Steps_num_Num__0 () x7 V1 < mu_transform_Steps_num_Num__0 () x2 V1)) ∧
      ((decide ((x2.t14 : Int) < (p0.len : Int))) = false →
        ∀ (b1 : Nat) (V3 : View), View.le V1 V3 → V3 b1 = some (List.toArray x2.o11) →
    R (.tuple #[(Sl.mk (some (Addr.mk b1 0 none)) (Int.toNat (p0.len : Int)) (Int.toNat (p0.len : Int))).v, .int .i64 0]) V3))) from ⟨fun h17 => (h.1 h17), fun h17 => ⟨(h.2 h17).1, ⟨⟨(L_transform_Steps_num_Num__0.mk 0 ((List.replicate (Int.toNat (p0.len : Int)) [Value.bool false, Value.slice none 0 0, Value.bool false, Value.slice none 0 0, Value.slice none 0 0]).flatten)), ⟨⟨rfl, rfl, rfl, rfl, trivial⟩, ⟨rfl, trivial⟩⟩, (h.2 h17).2.1⟩, fun x2 V1 h15 h16 => ⟨fun h14 => ⟨(((h.2 h17).2.2 x2 V1 h15 h16).1 h14).1, (match (((h.2 h17).2.2 x2 V1 h15 h16).1 h14).2 with | ⟨x3, h10, h11, h9⟩ => ⟨x3, h10, h11, ⟨h9.1, ⟨h9.2.1, ⟨fun h8 => ⟨(h9.2.2.1 h8).1, (match (h9.2.2.1 h8).2 with | ⟨x4, h7, h6⟩ => ⟨x4, h7, ⟨h6.1, (match h6.2 with | ⟨x5, h4, h5, h3⟩ => ⟨x5, h4, h5, (CallV.mono h3 (fun _ _ _ ⟨r1, h2, h1⟩ => ⟨r1, h2, ⟨h1.1, ⟨h1.2.1, ⟨(L_transform_Steps_num_Num__0.mk (IntKind.i64.wrap (x2.t14 + 1)) (setL (setL x2.o11 (0 + Int.toNat x2.t14 * 5) [.bool x3.re.neg, x3.re.mag.v, .bool x3.im.neg, x3.im.mag.v, x3.under.v]) (0 + Int.toNat x2.t14 * 5) [.bool r1.re.neg, r1.re.mag.v, .bool r1.im.neg, r1.im.mag.v, r1.under.v])), ⟨⟨rfl, rfl, rfl, rfl, trivial⟩, ⟨rfl, trivial⟩⟩, h1.2.2.1, h1.2.2.2⟩⟩⟩⟩))⟩)⟩⟩)⟩, fun h8 => ⟨(L_transform_Steps_num_Num__0.mk (IntKind.i64.wrap (x2.t14 + 1)) (setL x2.o11 (0 + Int.toNat x2.t14 * 5) [.bool x3.re.neg, x3.re.mag.v, .bool x3.im.neg, x3.im.mag.v, x3.under.v])), ⟨⟨rfl, rfl, rfl, rfl, trivial⟩, ⟨rfl, trivial⟩⟩, (h9.2.2.2 h8).1, (h9.2.2.2 h8).2⟩⟩⟩⟩⟩)⟩, fun h14 => (fun b1 V3 h12 h13 => ((((h.2 h17).2.2 x2 V1 h15 h16).2 h14) b1 V3 h12 h13))⟩⟩⟩⟩))

end Go.Proofs.Ytcapadojlaojkaa
