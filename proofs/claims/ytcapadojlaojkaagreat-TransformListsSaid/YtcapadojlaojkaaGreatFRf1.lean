/- Part of the proof; it has the parts FRf1. -/
import Derived.Test.YtcapadojlaojkaaGreatFLs1
set_option maxRecDepth 100000
set_option maxHeartbeats 4000000
namespace Go.Proofs.YtcapadojlaojkaaGreat
open Go Go.Vc Go.Proofs

structure L_waveportref07_Length_0 where
  t3 : Int
/-- waveport/waveportref07.Length -/
theorem waveportref07_Length_vc (p0 : Int) (V : View) (R : Value → View → Prop) (I_waveportref07_Length_0 : Unit → L_waveportref07_Length_0 → View → Prop) (mu_waveportref07_Length_0 : Unit → L_waveportref07_Length_0 → View → Nat)
  (h :
    I_waveportref07_Length_0 () (L_waveportref07_Length_0.mk 1) V ∧
    (∀ (x2 : L_waveportref07_Length_0) (V1 : View), View.le V V1 → I_waveportref07_Length_0 () x2 V1 →
      ((decide ((x2.t3 : Int) ≤ 64)) = true →
        (((p0 : Int) == x2.t3) = true →
        R (.bool true) V1) ∧
      (((p0 : Int) == x2.t3) = false →
        I_waveportref07_Length_0 () (L_waveportref07_Length_0.mk (IntKind.i64.wrap (x2.t3 * 2))) V1 ∧ mu_waveportref07_Length_0 () (L_waveportref07_Length_0.mk (IntKind.i64.wrap (x2.t3 * 2))) V1 < mu_waveportref07_Length_0 () x2 V1)) ∧
      ((decide ((x2.t3 : Int) ≤ 64)) = false →
        R (.bool false) V1))) :
  CallV Tryz.prog 120 #[.int .i64 p0] V R :=
  calls_of_vc (Shp := Shp) hmixed Tryz.func120 (c := Tryz.f120.body.getD .skip) (args := [.int .i64 p0]) (by kernel_rfl)
    (.seq (.reg [⟨2, 2, false⟩]) (.seq (.seq (.reg [⟨3, 2, false⟩]) (.block (.loop Unit L_waveportref07_Length_0 (fun _ => ()) (fun c x => { tm := spT 11 0 [(0, .val (.int .i64 p0)), (3, .val (.int .i64 x.t3))], own := spO 11 0 [] }) I_waveportref07_Length_0 mu_waveportref07_Length_0 (.seq (.seq (.reg [⟨4, 2, false⟩, ⟨5, 0, false⟩]) (.cond .leaf .leaf)) (.seq (.block (.seq (.reg [⟨8, 2, false⟩, ⟨9, 2, false⟩, ⟨10, 0, false⟩]) (.cond (.seq (.reg [⟨2, 2, false⟩]) .leaf) .leaf))) (.reg [⟨6, 2, false⟩, ⟨7, 0, false⟩, ⟨3, 2, false⟩])))))) (.seq (.reg [⟨2, 2, false⟩]) .leaf)))
    (Eq.mpr (by kernel_rfl) (show (∃ x1 : L_waveportref07_Length_0, ((SV.val (.int .i64 p0) = SV.val (.int .i64 p0) ∧ SV.val (.int .i64 1) = SV.val (.int .i64 x1.t3) ∧ True) ∧ (True)) ∧ I_waveportref07_Length_0 () x1 V) ∧
    (∀ (x2 : L_waveportref07_Length_0) (V1 : View), View.le V V1 → I_waveportref07_Length_0 () x2 V1 →
      ((decide ((x2.t3 : Int) ≤ 64)) = true →
        (((p0 : Int) == x2.t3) = true →
        R (.bool true) V1) ∧
      (((p0 : Int) == x2.t3) = false →
        ∃ x3 : L_waveportref07_Length_0, ((SV.val (.int .i64 p0) = SV.val (.int .i64 p0) ∧ SV.val (.int .i64 (IntKind.i64.wrap (x2.t3 * 2))) = SV.val (.int .i64 x3.t3) ∧ True) ∧ (True)) ∧ I_waveportref07_Length_0 () x3 V1 ∧ mu_waveportref07_Length_0 () x3 V1 < mu_waveportref07_Length_0 () x2 V1)) ∧
      ((decide ((x2.t3 : Int) ≤ 64)) = false →
        R (.bool false) V1)) from ⟨⟨(L_waveportref07_Length_0.mk 1), ⟨⟨rfl, rfl, trivial⟩, trivial⟩, h.1⟩, fun x2 V1 h3 h4 => ⟨fun h2 => ⟨fun h1 => (((h.2 x2 V1 h3 h4).1 h2).1 h1), fun h1 => ⟨(L_waveportref07_Length_0.mk (IntKind.i64.wrap (x2.t3 * 2))), ⟨⟨rfl, rfl, trivial⟩, trivial⟩, (((h.2 x2 V1 h3 h4).1 h2).2 h1).1, (((h.2 x2 V1 h3 h4).1 h2).2 h1).2⟩⟩, fun h2 => ((h.2 x2 V1 h3 h4).2 h2)⟩⟩))

structure L_waveportlaw07_refList_0 where
  t11 : Int
  o8 : List Value
/-- waveport/waveportlaw07.refList -/
theorem waveportlaw07_refList_vc (p0 : Sl) (V : View) (R : Value → View → Prop) (I_waveportlaw07_refList_0 : Unit → L_waveportlaw07_refList_0 → View → Prop) (mu_waveportlaw07_refList_0 : Unit → L_waveportlaw07_refList_0 → View → Nat)
  (h :
    ((0 : Int) ≤ (p0.len : Int) ∧ ((p0.len : Int) : Int) ≤ (p0.len : Int) ∧ (88 : Int) * (p0.len : Int) ≤ 281474976710656 ∧ ((p0.len : Int) : Int) ≤ 9223372036854775807) ∧
    I_waveportlaw07_refList_0 () (L_waveportlaw07_refList_0.mk 0 ((List.replicate (Int.toNat (p0.len : Int)) [Value.bool false, Value.slice none 0 0, Value.bool false, Value.slice none 0 0, Value.slice none 0 0]).flatten)) V ∧
    (∀ (x2 : L_waveportlaw07_refList_0) (V1 : View), View.le V V1 → I_waveportlaw07_refList_0 () x2 V1 →
      ((decide ((x2.t11 : Int) < (p0.len : Int))) = true →
        ((0 : Int) ≤ x2.t11 ∧ (x2.t11 : Int) < (p0.len : Nat) ∧ Option.isSome p0.a = true) ∧
      ∃ x3 : RatV, View.has V1 (Option.map (fun q => Addr.add q (Int.toNat x2.t11 * 3)) p0.a) (x3.val).cells.toList ∧ Option.isSome (Option.map (fun q => Addr.add q (Int.toNat x2.t11 * 3)) p0.a) = true ∧
      CallV Tryz.prog 106 #[x3.val] V1 fun v V2 => ∃ r1 : NumV, v = r1.val ∧ -- waveportref01.Of
      ((0 : Int) ≤ x2.t11 ∧ (x2.t11 : Int) < (Int.toNat (p0.len : Int) : Nat)) ∧
      0 + Int.toNat x2.t11 * 5 + 5 ≤ List.length x2.o8 ∧
      I_waveportlaw07_refList_0 () (L_waveportlaw07_refList_0.mk (IntKind.i64.wrap (x2.t11 + 1)) (setL x2.o8 (0 + Int.toNat x2.t11 * 5) [.bool r1.re.neg, r1.re.mag.v, .bool r1.im.neg, r1.im.mag.v, r1.under.v])) V2 ∧ mu_waveportlaw07_refList_0 () (L_waveportlaw07_refList_0.mk (IntKind.i64.wrap (x2.t11 + 1)) (setL x2.o8 (0 + Int.toNat x2.t11 * 5) [.bool r1.re.neg, r1.re.mag.v, .bool r1.im.neg, r1.im.mag.v, r1.under.v])) V2 < mu_waveportlaw07_refList_0 () x2 V1) ∧
      ((decide ((x2.t11 : Int) < (p0.len : Int))) = false →
        ∀ (b1 : Nat) (V3 : View), View.le V1 V3 → V3 b1 = some (List.toArray x2.o8) →
    R ((Sl.mk (some (Addr.mk b1 0 none)) (Int.toNat (p0.len : Int)) (Int.toNat (p0.len : Int))).v) V3))) :
  CallV Tryz.prog 40 #[p0.v] V R :=
  calls_of_vc (Shp := Shp) hmixed Tryz.func40 (c := Tryz.f40.body.getD .skip) (args := [p0.v]) (by kernel_rfl)
    (.seq (.reg [⟨2, 2, false⟩]) (.seq (.reg [⟨6, 2, false⟩, ⟨7, 0, false⟩, ⟨8, 3, false⟩, ⟨3, 2, false⟩]) (.seq (.seq (.reg [⟨9, 2, false⟩, ⟨10, 0, false⟩, ⟨11, 2, false⟩]) (.block (.loop Unit L_waveportlaw07_refList_0 (fun _ => ()) (fun c x => { tm := spT 23 0 [(3, .osl 8 0 (Int.toNat (p0.len : Int)) (Int.toNat (p0.len : Int))), (9, .val (p0.v)), (10, .val (.int .i64 (p0.len : Int))), (11, .val (.int .i64 x.t11))], own := spO 23 0 [(8, ⟨165, .dyn x.o8⟩)] }) I_waveportlaw07_refList_0 mu_waveportlaw07_refList_0 (.seq (.reg [⟨12, 0, false⟩]) (.seq (.cond .leaf .leaf) (.seq (.block (.seq (.reg [⟨13, 2, false⟩, ⟨14, 7, false⟩, ⟨15, 5, false⟩, ⟨5, 3, false⟩, ⟨4, 2, false⟩, ⟨5, 6, false⟩]) (.reg [⟨16, 2, false⟩, ⟨17, 2, false⟩, ⟨5, 4, false⟩, ⟨19, 10, false⟩, ⟨20, 7, false⟩, ⟨8, 6, false⟩]))) (.reg [⟨21, 0, false⟩, ⟨11, 2, false⟩]))))))) (.seq (.reg [⟨22, 2, false⟩, ⟨2, 2, false⟩]) (.pub 8 .leaf)))))
    (Eq.mpr (by kernel_rfl) (show ((0 : Int) ≤ (p0.len : Int) ∧ ((p0.len : Int) : Int) ≤ (p0.len : Int) ∧ (88 : Int) * (p0.len : Int) ≤ 281474976710656 ∧ ((p0.len : Int) : Int) ≤ 9223372036854775807) ∧
    (∃ x1 : L_waveportlaw07_refList_0, ((SV.osl 8 0 (Int.toNat (p0.len : Int)) (Int.toNat (p0.len : Int)) = SV.osl 8 0 (Int.toNat (p0.len : Int)) (Int.toNat (p0.len : Int)) ∧ SV.val (p0.v) = SV.val (p0.v) ∧ SV.val (.int .i64 (p0.len : Int)) = SV.val (.int .i64 (p0.len : Int)) ∧ SV.val (.int .i64 0) = SV.val (.int .i64 x1.t11) ∧ True) ∧ ((some (⟨165, .dyn ((List.replicate (Int.toNat (p0.len : Int)) [Value.bool false, Value.slice none 0 0, Value.bool false, Value.slice none 0 0, Value.slice none 0 0]).flatten)⟩) : Option OB) = some (⟨165, .dyn x1.o8⟩) ∧ True)) ∧ I_waveportlaw07_refList_0 () x1 V) ∧
    (∀ (x2 : L_waveportlaw07_refList_0) (V1 : View), View.le V V1 → I_waveportlaw07_refList_0 () x2 V1 →
      ((decide ((x2.t11 : Int) < (p0.len : Int))) = true →
        ((0 : Int) ≤ x2.t11 ∧ (x2.t11 : Int) < (p0.len : Nat) ∧ Option.isSome p0.a = true) ∧
      ∃ x3 : RatV, View.has V1 (Option.map (fun q => Addr.add q (Int.toNat x2.t11 * 3)) p0.a) (x3.val).cells.toList ∧ Option.isSome (Option.map (fun q => Addr.add q (Int.toNat x2.t11 * 3)) p0.a) = true ∧
      CallV Tryz.prog 106 #[x3.val] V1 fun v V2 => ∃ r1 : NumV, v = r1.val ∧ -- waveportref01.Of
      ((0 : Int) ≤ x2.t11 ∧ (x2.t11 : Int) < (Int.toNat (p0.len : Int) : Nat)) ∧
      0 + Int.toNat x2.t11 * 5 + 5 ≤ List.length x2.o8 ∧
      ∃ x4 : L_waveportlaw07_refList_0, ((SV.osl 8 0 (Int.toNat (p0.len : Int)) (Int.toNat (p0.len : Int)) = SV.osl 8 0 (Int.toNat (p0.len : Int)) (Int.toNat (p0.len : Int)) ∧ SV.val (p0.v) = SV.val (p0.v) ∧ SV.val (.int .i64 (p0.len : Int)) = SV.val (.int .i64 (p0.len : Int)) ∧ SV.val (.int .i64 (IntKind.i64.wrap (x2.t11 + 1))) = SV.val (.int .i64 x4.t11) ∧ True) ∧ ((some (⟨165, .dyn (setL x2.o8 (0 + Int.toNat x2.t11 * 5) [.bool r1.re.neg, r1.re.mag.v, .bool r1.im.neg, r1.im.mag.v, r1.under.v])⟩) : Option OB) = some (⟨165, .dyn x4.o8⟩) ∧ True)) ∧ I_waveportlaw07_refList_0 () x4 V2 ∧ mu_waveportlaw07_refList_0 () x4 V2 < mu_waveportlaw07_refList_0 () x2 V1) ∧
      ((decide ((x2.t11 : Int) < (p0.len : Int))) = false →
        ∀ (b1 : Nat) (V3 : View), View.le V1 V3 → V3 b1 = some (List.toArray x2.o8) →
    R ((Sl.mk (some (Addr.mk b1 0 none)) (Int.toNat (p0.len : Int)) (Int.toNat (p0.len : Int))).v) V3)) from ⟨h.1, ⟨⟨(L_waveportlaw07_refList_0.mk 0 ((List.replicate (Int.toNat (p0.len : Int)) [Value.bool false, Value.slice none 0 0, Value.bool false, Value.slice none 0 0, Value.slice none 0 0]).flatten)), ⟨⟨rfl, rfl, rfl, rfl, trivial⟩, ⟨rfl, trivial⟩⟩, h.2.1⟩, fun x2 V1 h9 h10 => ⟨fun h8 => ⟨((h.2.2 x2 V1 h9 h10).1 h8).1, (match ((h.2.2 x2 V1 h9 h10).1 h8).2 with | ⟨x3, h4, h5, h3⟩ => ⟨x3, h4, h5, (CallV.mono h3 (fun _ _ _ ⟨r1, h2, h1⟩ => ⟨r1, h2, ⟨h1.1, ⟨h1.2.1, ⟨(L_waveportlaw07_refList_0.mk (IntKind.i64.wrap (x2.t11 + 1)) (setL x2.o8 (0 + Int.toNat x2.t11 * 5) [.bool r1.re.neg, r1.re.mag.v, .bool r1.im.neg, r1.im.mag.v, r1.under.v])), ⟨⟨rfl, rfl, rfl, rfl, trivial⟩, ⟨rfl, trivial⟩⟩, h1.2.2.1, h1.2.2.2⟩⟩⟩⟩))⟩)⟩, fun h8 => (fun b1 V3 h6 h7 => (((h.2.2 x2 V1 h9 h10).2 h8) b1 V3 h6 h7))⟩⟩⟩))

end Go.Proofs.YtcapadojlaojkaaGreat
