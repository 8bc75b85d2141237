/- Part of the proof; it has the parts FFor. -/
import Derived.Test.YtcapadojlaojkaaFText
set_option maxRecDepth 100000
set_option maxHeartbeats 4000000
namespace Go.Proofs.Ytcapadojlaojkaa
open Go Go.Vc Go.Proofs

/-- waveport/waveportlaw07.small -/
theorem waveportlaw07_small_vc (p0 : RatV) (V : View) (R : Value → View → Prop) 
  (h :
    ((decide (((Int.tmod p0.den 6) : Int) < 0)) = true →
      R ((RatV.mk (Int.tmod p0.re 21) (Int.tmod p0.im 21) (IntKind.i64.wrap ((IntKind.i64.wrap (0 - (Int.tmod p0.den 6))) + 1))).val) V) ∧
    ((decide (((Int.tmod p0.den 6) : Int) < 0)) = false →
      R ((RatV.mk (Int.tmod p0.re 21) (Int.tmod p0.im 21) (IntKind.i64.wrap ((Int.tmod p0.den 6) + 1))).val) V)) :
  CallV Try.prog 75 #[p0.val] V R :=
  calls_of_vc (Shp := Shp) hmixed Try.func75 (c := Try.f75.body.getD .skip) (args := [p0.val]) (by kernel_rfl)
    (.seq (.reg [⟨1, 3, false⟩, ⟨2, 3, false⟩]) (.seq (.reg [⟨4, 7, false⟩, ⟨1, 4, false⟩, ⟨6, 0, false⟩, ⟨3, 2, false⟩]) (.seq (.seq (.reg [⟨7, 2, false⟩, ⟨8, 0, false⟩]) (.cond (.reg [⟨9, 2, false⟩, ⟨10, 0, false⟩, ⟨3, 2, false⟩]) .leaf)) (.seq (.reg [⟨11, 7, false⟩, ⟨1, 4, false⟩, ⟨13, 0, false⟩, ⟨14, 7, false⟩, ⟨1, 4, false⟩, ⟨16, 0, false⟩, ⟨17, 2, false⟩, ⟨18, 0, false⟩, ⟨19, 0, false⟩, ⟨2, 6, false⟩]) .leaf))))
    (Eq.mpr (by kernel_rfl) h)

structure L_waveportlaw07_repeated_0 where
  t11 : Int
  o8 : List Value
/-- waveport/waveportlaw07.repeated -/
theorem waveportlaw07_repeated_vc (p0 : Sl) (p1 : Int) (V : View) (R : Value → View → Prop) (I_waveportlaw07_repeated_0 : Unit → L_waveportlaw07_repeated_0 → View → Prop) (mu_waveportlaw07_repeated_0 : Unit → L_waveportlaw07_repeated_0 → View → Nat)
  (h :
    ((0 : Int) ≤ p1 ∧ (p1 : Int) ≤ p1 ∧ (24 : Int) * p1 ≤ 281474976710656 ∧ (p1 : Int) ≤ 9223372036854775807) ∧
    I_waveportlaw07_repeated_0 () (L_waveportlaw07_repeated_0.mk 0 ((List.replicate (Int.toNat p1) [Value.int .i64 0, Value.int .i64 0, Value.int .i64 0]).flatten)) V ∧
    (∀ (x2 : L_waveportlaw07_repeated_0) (V1 : View), View.le V V1 → I_waveportlaw07_repeated_0 () x2 V1 →
      ((decide ((x2.t11 : Int) < ((Int.toNat p1 : Nat) : Int))) = true →
        ((decide (((p0.len : Int) : Int) > 0)) = true →
        ((p0.len : Int) : Int) ≠ 0 ∧
        ((0 : Int) ≤ (Int.tmod x2.t11 (p0.len : Int)) ∧ ((Int.tmod x2.t11 (p0.len : Int)) : Int) < (p0.len : Nat) ∧ Option.isSome p0.a = true) ∧
        ∃ x3 : RatV, View.has V1 (Option.map (fun q => Addr.add q (Int.toNat (Int.tmod x2.t11 (p0.len : Int)) * 3)) p0.a) (x3.val).cells.toList ∧ Option.isSome (Option.map (fun q => Addr.add q (Int.toNat (Int.tmod x2.t11 (p0.len : Int)) * 3)) p0.a) = true ∧
        CallV Try.prog 75 #[x3.val] V1 fun v V2 => ∃ r1 : RatV, v = r1.val ∧ -- waveportlaw07.small
        ((0 : Int) ≤ x2.t11 ∧ (x2.t11 : Int) < (Int.toNat p1 : Nat)) ∧
        0 + Int.toNat x2.t11 * 3 + 3 ≤ List.length x2.o8 ∧
        I_waveportlaw07_repeated_0 () (L_waveportlaw07_repeated_0.mk (IntKind.i64.wrap (x2.t11 + 1)) (setL x2.o8 (0 + Int.toNat x2.t11 * 3) [.int .i64 r1.re, .int .i64 r1.im, .int .i64 r1.den])) V2 ∧ mu_waveportlaw07_repeated_0 () (L_waveportlaw07_repeated_0.mk (IntKind.i64.wrap (x2.t11 + 1)) (setL x2.o8 (0 + Int.toNat x2.t11 * 3) [.int .i64 r1.re, .int .i64 r1.im, .int .i64 r1.den])) V2 < mu_waveportlaw07_repeated_0 () x2 V1) ∧
      ((decide (((p0.len : Int) : Int) > 0)) = false →
        I_waveportlaw07_repeated_0 () (L_waveportlaw07_repeated_0.mk (IntKind.i64.wrap (x2.t11 + 1)) x2.o8) V1 ∧ mu_waveportlaw07_repeated_0 () (L_waveportlaw07_repeated_0.mk (IntKind.i64.wrap (x2.t11 + 1)) x2.o8) V1 < mu_waveportlaw07_repeated_0 () x2 V1)) ∧
      ((decide ((x2.t11 : Int) < ((Int.toNat p1 : Nat) : Int))) = false →
        ∀ (b1 : Nat) (V3 : View), View.le V1 V3 → V3 b1 = some (List.toArray x2.o8) →
    R ((Sl.mk (some (Addr.mk b1 0 none)) (Int.toNat p1) (Int.toNat p1)).v) V3))) :
  CallV Try.prog 24 #[p0.v, .int .i64 p1] V R :=
  calls_of_vc (Shp := Shp) hmixed Try.func24 (c := Try.f24.body.getD .skip) (args := [p0.v, .int .i64 p1]) (by kernel_rfl)
    (.seq (.reg [⟨4, 2, false⟩]) (.seq (.reg [⟨7, 2, false⟩, ⟨8, 3, false⟩, ⟨5, 2, false⟩]) (.seq (.seq (.reg [⟨9, 2, false⟩, ⟨10, 7, false⟩, ⟨11, 2, false⟩]) (.block (.loop Unit L_waveportlaw07_repeated_0 (fun _ => ()) (fun c x => { tm := spT 30 0 [(0, .val (p0.v)), (5, .osl 8 0 (Int.toNat p1) (Int.toNat p1)), (10, .val (.int .i64 ((Int.toNat p1 : Nat) : Int))), (11, .val (.int .i64 x.t11))], own := spO 30 0 [(8, ⟨59, .dyn x.o8⟩)] }) I_waveportlaw07_repeated_0 mu_waveportlaw07_repeated_0 (.seq (.reg [⟨12, 0, false⟩]) (.seq (.cond .leaf .leaf) (.seq (.block (.seq (.reg [⟨13, 2, false⟩, ⟨6, 2, false⟩]) (.seq (.reg [⟨14, 2, false⟩, ⟨15, 0, false⟩, ⟨16, 0, false⟩]) (.cond (.reg [⟨17, 2, false⟩, ⟨18, 2, false⟩, ⟨19, 2, false⟩, ⟨20, 2, false⟩, ⟨21, 2, false⟩, ⟨22, 0, false⟩, ⟨23, 12, false⟩, ⟨24, 7, false⟩, ⟨25, 5, false⟩, ⟨26, 10, false⟩, ⟨27, 7, false⟩, ⟨8, 6, false⟩]) .leaf)))) (.reg [⟨28, 0, false⟩, ⟨11, 2, false⟩]))))))) (.seq (.reg [⟨29, 2, false⟩, ⟨4, 2, false⟩]) (.pub 8 .leaf)))))
    (Eq.mpr (by kernel_rfl) (show ((0 : Int) ≤ p1 ∧ (p1 : Int) ≤ p1 ∧ (24 : Int) * p1 ≤ 281474976710656 ∧ (p1 : Int) ≤ 9223372036854775807) ∧
    (∃ x1 : L_waveportlaw07_repeated_0, ((SV.val (p0.v) = SV.val (p0.v) ∧ SV.osl 8 0 (Int.toNat p1) (Int.toNat p1) = SV.osl 8 0 (Int.toNat p1) (Int.toNat p1) ∧ SV.val (.int .i64 ((Int.toNat p1 : Nat) : Int)) = SV.val (.int .i64 ((Int.toNat p1 : Nat) : Int)) ∧ SV.val (.int .i64 0) = SV.val (.int .i64 x1.t11) ∧ True) ∧ ((some (⟨59, .dyn ((List.replicate (Int.toNat p1) [Value.int .i64 0, Value.int .i64 0, Value.int .i64 0]).flatten)⟩) : Option OB) = some (⟨59, .dyn x1.o8⟩) ∧ True)) ∧ I_waveportlaw07_repeated_0 () x1 V) ∧
    (∀ (x2 : L_waveportlaw07_repeated_0) (V1 : View), View.le V V1 → I_waveportlaw07_repeated_0 () x2 V1 →
      ((decide ((x2.t11 : Int) < ((Int.toNat p1 : Nat) : Int))) = true →
        ((decide (((p0.len : Int) : Int) > 0)) = true →
        ((p0.len : Int) : Int) ≠ 0 ∧
        ((0 : Int) ≤ (Int.tmod x2.t11 (p0.len : Int)) ∧ ((Int.tmod x2.t11 (p0.len : Int)) : Int) < (p0.len : Nat) ∧ Option.isSome p0.a = true) ∧
        ∃ x3 : RatV, View.has V1 (Option.map (fun q => Addr.add q (Int.toNat (Int.tmod x2.t11 (p0.len : Int)) * 3)) p0.a) (x3.val).cells.toList ∧ Option.isSome (Option.map (fun q => Addr.add q (Int.toNat (Int.tmod x2.t11 (p0.len : Int)) * 3)) p0.a) = true ∧
        CallV Try.prog 75 #[x3.val] V1 fun v V2 => ∃ r1 : RatV, v = r1.val ∧ -- waveportlaw07.small
        ((0 : Int) ≤ x2.t11 ∧ (x2.t11 : Int) < (Int.toNat p1 : Nat)) ∧
        0 + Int.toNat x2.t11 * 3 + 3 ≤ List.length x2.o8 ∧
        ∃ x4 : L_waveportlaw07_repeated_0, ((SV.val (p0.v) = SV.val (p0.v) ∧ SV.osl 8 0 (Int.toNat p1) (Int.toNat p1) = SV.osl 8 0 (Int.toNat p1) (Int.toNat p1) ∧ SV.val (.int .i64 ((Int.toNat p1 : Nat) : Int)) = SV.val (.int .i64 ((Int.toNat p1 : Nat) : Int)) ∧ SV.val (.int .i64 (IntKind.i64.wrap (x2.t11 + 1))) = SV.val (.int .i64 x4.t11) ∧ True) ∧ ((some (⟨59, .dyn (setL x2.o8 (0 + Int.toNat x2.t11 * 3) [.int .i64 r1.re, .int .i64 r1.im, .int .i64 r1.den])⟩) : Option OB) = some (⟨59, .dyn x4.o8⟩) ∧ True)) ∧ I_waveportlaw07_repeated_0 () x4 V2 ∧ mu_waveportlaw07_repeated_0 () x4 V2 < mu_waveportlaw07_repeated_0 () x2 V1) ∧
      ((decide (((p0.len : Int) : Int) > 0)) = false →
        ∃ x5 : L_waveportlaw07_repeated_0, ((SV.val (p0.v) = SV.val (p0.v) ∧ SV.osl 8 0 (Int.toNat p1) (Int.toNat p1) = SV.osl 8 0 (Int.toNat p1) (Int.toNat p1) ∧ SV.val (.int .i64 ((Int.toNat p1 : Nat) : Int)) = SV.val (.int .i64 ((Int.toNat p1 : Nat) : Int)) ∧ SV.val (.int .i64 (IntKind.i64.wrap (x2.t11 + 1))) = SV.val (.int .i64 x5.t11) ∧ True) ∧ ((some (⟨59, .dyn x2.o8⟩) : Option OB) = some (⟨59, .dyn x5.o8⟩) ∧ True)) ∧ I_waveportlaw07_repeated_0 () x5 V1 ∧ mu_waveportlaw07_repeated_0 () x5 V1 < mu_waveportlaw07_repeated_0 () x2 V1)) ∧
      ((decide ((x2.t11 : Int) < ((Int.toNat p1 : Nat) : Int))) = false →
        ∀ (b1 : Nat) (V3 : View), View.le V1 V3 → V3 b1 = some (List.toArray x2.o8) →
    R ((Sl.mk (some (Addr.mk b1 0 none)) (Int.toNat p1) (Int.toNat p1)).v) V3)) from ⟨h.1, ⟨⟨(L_waveportlaw07_repeated_0.mk 0 ((List.replicate (Int.toNat p1) [Value.int .i64 0, Value.int .i64 0, Value.int .i64 0]).flatten)), ⟨⟨rfl, rfl, rfl, rfl, trivial⟩, ⟨rfl, trivial⟩⟩, h.2.1⟩, fun x2 V1 h10 h11 => ⟨fun h9 => ⟨fun h6 => ⟨(((h.2.2 x2 V1 h10 h11).1 h9).1 h6).1, ⟨(((h.2.2 x2 V1 h10 h11).1 h9).1 h6).2.1, (match (((h.2.2 x2 V1 h10 h11).1 h9).1 h6).2.2 with | ⟨x3, h4, h5, h3⟩ => ⟨x3, h4, h5, (CallV.mono h3 (fun _ _ _ ⟨r1, h2, h1⟩ => ⟨r1, h2, ⟨h1.1, ⟨h1.2.1, ⟨(L_waveportlaw07_repeated_0.mk (IntKind.i64.wrap (x2.t11 + 1)) (setL x2.o8 (0 + Int.toNat x2.t11 * 3) [.int .i64 r1.re, .int .i64 r1.im, .int .i64 r1.den])), ⟨⟨rfl, rfl, rfl, rfl, trivial⟩, ⟨rfl, trivial⟩⟩, h1.2.2.1, h1.2.2.2⟩⟩⟩⟩))⟩)⟩⟩, fun h6 => ⟨(L_waveportlaw07_repeated_0.mk (IntKind.i64.wrap (x2.t11 + 1)) x2.o8), ⟨⟨rfl, rfl, rfl, rfl, trivial⟩, ⟨rfl, trivial⟩⟩, (((h.2.2 x2 V1 h10 h11).1 h9).2 h6).1, (((h.2.2 x2 V1 h10 h11).1 h9).2 h6).2⟩⟩, fun h9 => (fun b1 V3 h7 h8 => (((h.2.2 x2 V1 h10 h11).2 h9) b1 V3 h7 h8))⟩⟩⟩))

/-- waveport/transform.of[waveport/num.Num] -/
theorem transform_of_num_Num__vc (p0 : Int) (p1 : Int) (V : View) (R : Value → View → Prop) 
  (h :
    CallV Try.prog 59 #[.int .i64 p0, .int .i64 0, .int .i64 p1] V fun v V1 => ∃ (r1 : NumV) (r2 : Int), v = .tuple #[r1.val, .int .i64 r2] ∧ -- num.New
    CallV Try.prog 232 #[(NumV.mk (WhV.mk false (Sl.mk none 0 0)) (WhV.mk false (Sl.mk none 0 0)) (Sl.mk none 0 0)).val, r1.val] V1 fun v V2 => ∃ r3 : NumV, v = r3.val ∧ -- (num.Num).Of
    R (r3.val) V2) :
  CallV Try.prog 78 #[.int .i64 p0, .int .i64 p1] V R :=
  calls_of_vc (Shp := Shp) hmixed Try.func78 (c := Try.f78.body.getD .skip) (args := [.int .i64 p0, .int .i64 p1]) (by kernel_rfl)
    (.seq (.reg [⟨4, 3, false⟩]) (.seq (.reg [⟨5, 3, false⟩]) (.seq (.reg [⟨9, 2, false⟩, ⟨10, 2, false⟩, ⟨11, 10, false⟩, ⟨8, 2, false⟩, ⟨12, 0, false⟩, ⟨13, 0, false⟩, ⟨6, 3, false⟩, ⟨6, 6, false⟩, ⟨7, 2, false⟩]) (.seq (.reg [⟨5, 4, false⟩, ⟨15, 0, false⟩, ⟨6, 4, false⟩, ⟨17, 10, false⟩, ⟨4, 6, false⟩]) .leaf))))
    (Eq.mpr (by kernel_rfl) h)

end Go.Proofs.Ytcapadojlaojkaa
