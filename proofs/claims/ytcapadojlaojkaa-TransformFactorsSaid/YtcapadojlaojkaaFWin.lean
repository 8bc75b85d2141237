/- Part of the proof; it has the parts FWin. -/
import Derived.Test.YtcapadojlaojkaaFText
set_option maxRecDepth 100000
set_option maxHeartbeats 4000000
namespace Go.Proofs.Ytcapadojlaojkaa
open Go Go.Vc Go.Proofs

structure L_transform_Window_0 where
  u : Unit
structure L_transform_Window_1 where
  t34 : Int
  o31 : List Value
structure C_transform_Window_1 where
  o6_0 : Bool
  o6_1 : Sl
  o6_2 : Bool
  o6_3 : Sl
  o6_4 : Sl
/-- waveport/transform.Window -/
theorem transform_Window_vc (p0 : Int) (p1 : Int) (V : View) (R : Value → View → Prop) (I_transform_Window_0 : Unit → L_transform_Window_0 → View → Prop) (I_transform_Window_1 : C_transform_Window_1 → L_transform_Window_1 → View → Prop) (mu_transform_Window_1 : C_transform_Window_1 → L_transform_Window_1 → View → Nat)
  (h :
    (((decide ((p1 : Int) < 1)) = true →
      (true = true →
        R (.tuple #[(Sl.mk none 0 0).v, .int .i64 4]) V) ∧
      (true = false →
        (((p0 : Int) != 0) = true →
        (((p0 : Int) != 1) = true →
        (((p0 : Int) != 2) = true →
          R (.tuple #[(Sl.mk none 0 0).v, .int .i64 1]) V) ∧
        (((p0 : Int) != 2) = false →
          I_transform_Window_0 () (L_transform_Window_0.mk ()) V)) ∧
        (((p0 : Int) != 1) = false →
        (false = true →
          R (.tuple #[(Sl.mk none 0 0).v, .int .i64 1]) V) ∧
        (false = false →
          I_transform_Window_0 () (L_transform_Window_0.mk ()) V))) ∧
        (((p0 : Int) != 0) = false →
        (false = true →
        (((p0 : Int) != 2) = true →
          R (.tuple #[(Sl.mk none 0 0).v, .int .i64 1]) V) ∧
        (((p0 : Int) != 2) = false →
          I_transform_Window_0 () (L_transform_Window_0.mk ()) V)) ∧
        (false = false →
        (false = true →
          R (.tuple #[(Sl.mk none 0 0).v, .int .i64 1]) V) ∧
        (false = false →
          I_transform_Window_0 () (L_transform_Window_0.mk ()) V))))) ∧
      ((decide ((p1 : Int) < 1)) = false →
      ((decide ((p1 : Int) > 64)) = true →
        R (.tuple #[(Sl.mk none 0 0).v, .int .i64 4]) V) ∧
      ((decide ((p1 : Int) > 64)) = false →
        (((p0 : Int) != 0) = true →
        (((p0 : Int) != 1) = true →
        (((p0 : Int) != 2) = true →
          R (.tuple #[(Sl.mk none 0 0).v, .int .i64 1]) V) ∧
        (((p0 : Int) != 2) = false →
          I_transform_Window_0 () (L_transform_Window_0.mk ()) V)) ∧
        (((p0 : Int) != 1) = false →
        (false = true →
          R (.tuple #[(Sl.mk none 0 0).v, .int .i64 1]) V) ∧
        (false = false →
          I_transform_Window_0 () (L_transform_Window_0.mk ()) V))) ∧
        (((p0 : Int) != 0) = false →
        (false = true →
        (((p0 : Int) != 2) = true →
          R (.tuple #[(Sl.mk none 0 0).v, .int .i64 1]) V) ∧
        (((p0 : Int) != 2) = false →
          I_transform_Window_0 () (L_transform_Window_0.mk ()) V)) ∧
        (false = false →
        (false = true →
          R (.tuple #[(Sl.mk none 0 0).v, .int .i64 1]) V) ∧
        (false = false →
          I_transform_Window_0 () (L_transform_Window_0.mk ()) V)))))) ∧
    (∀ (x1 : L_transform_Window_0) (V1 : View), View.le V V1 → I_transform_Window_0 () x1 V1 →
      CallV Try.prog 60 #[.int .i64 1] V1 fun v V2 => ∃ r1 : NumV, v = r1.val ∧ -- num.Int
      ((0 : Int) ≤ p1 ∧ (p1 : Int) ≤ p1 ∧ (88 : Int) * p1 ≤ 281474976710656 ∧ (p1 : Int) ≤ 9223372036854775807) ∧
      I_transform_Window_1 (C_transform_Window_1.mk r1.re.neg r1.re.mag r1.im.neg r1.im.mag r1.under) (L_transform_Window_1.mk 0 ((List.replicate (Int.toNat p1) [Value.bool false, Value.slice none 0 0, Value.bool false, Value.slice none 0 0, Value.slice none 0 0]).flatten)) V2 ∧
      (∀ (x11 : L_transform_Window_1) (V3 : View), View.le V2 V3 → I_transform_Window_1 (C_transform_Window_1.mk r1.re.neg r1.re.mag r1.im.neg r1.im.mag r1.under) x11 V3 →
        ((decide ((x11.t34 : Int) < ((Int.toNat p1 : Nat) : Int))) = true →
          CallV Try.prog 59 #[.int .i64 (if ((IntKind.i64.wrap ((IntKind.i64.wrap (p1 - 1)) - (IntKind.i64.wrap (2 * x11.t34)))) : Int) > (IntKind.i64.wrap ((IntKind.i64.wrap ((IntKind.i64.wrap (2 * x11.t34)) - p1)) + 1)) then (IntKind.i64.wrap ((IntKind.i64.wrap (p1 - 1)) - (IntKind.i64.wrap (2 * x11.t34)))) else (IntKind.i64.wrap ((IntKind.i64.wrap ((IntKind.i64.wrap (2 * x11.t34)) - p1)) + 1))), .int .i64 0, .int .i64 (IntKind.i64.wrap (p1 + 1))] V3 fun v V4 => ∃ (r2 : NumV) (r3 : Int), v = .tuple #[r2.val, .int .i64 r3] ∧ -- num.New
        (((p0 : Int) == 0) = true →
          ((0 : Int) ≤ x11.t34 ∧ (x11.t34 : Int) < (Int.toNat p1 : Nat)) ∧
          0 + Int.toNat x11.t34 * 5 + 5 ≤ List.length x11.o31 ∧
          I_transform_Window_1 (C_transform_Window_1.mk r1.re.neg r1.re.mag r1.im.neg r1.im.mag r1.under) (L_transform_Window_1.mk (IntKind.i64.wrap (x11.t34 + 1)) (setL x11.o31 (0 + Int.toNat x11.t34 * 5) [.bool r1.re.neg, r1.re.mag.v, .bool r1.im.neg, r1.im.mag.v, r1.under.v])) V4 ∧ mu_transform_Window_1 (C_transform_Window_1.mk r1.re.neg r1.re.mag r1.im.neg r1.im.mag r1.under) (L_transform_Window_1.mk (IntKind.i64.wrap (x11.t34 + 1)) (setL x11.o31 (0 + Int.toNat x11.t34 * 5) [.bool r1.re.neg, r1.re.mag.v, .bool r1.im.neg, r1.im.mag.v, r1.under.v])) V4 < mu_transform_Window_1 (C_transform_Window_1.mk r1.re.neg r1.re.mag r1.im.neg r1.im.mag r1.under) x11 V3) ∧
        (((p0 : Int) == 0) = false →
          (((p0 : Int) == 1) = true →
            CallV Try.prog 66 #[r1.val, r2.val] V4 fun v V5 => ∃ r4 : NumV, v = r4.val ∧ -- (num.Num).Sub
            ((0 : Int) ≤ x11.t34 ∧ (x11.t34 : Int) < (Int.toNat p1 : Nat)) ∧
            0 + Int.toNat x11.t34 * 5 + 5 ≤ List.length x11.o31 ∧
            I_transform_Window_1 (C_transform_Window_1.mk r1.re.neg r1.re.mag r1.im.neg r1.im.mag r1.under) (L_transform_Window_1.mk (IntKind.i64.wrap (x11.t34 + 1)) (setL x11.o31 (0 + Int.toNat x11.t34 * 5) [.bool r4.re.neg, r4.re.mag.v, .bool r4.im.neg, r4.im.mag.v, r4.under.v])) V5 ∧ mu_transform_Window_1 (C_transform_Window_1.mk r1.re.neg r1.re.mag r1.im.neg r1.im.mag r1.under) (L_transform_Window_1.mk (IntKind.i64.wrap (x11.t34 + 1)) (setL x11.o31 (0 + Int.toNat x11.t34 * 5) [.bool r4.re.neg, r4.re.mag.v, .bool r4.im.neg, r4.im.mag.v, r4.under.v])) V5 < mu_transform_Window_1 (C_transform_Window_1.mk r1.re.neg r1.re.mag r1.im.neg r1.im.mag r1.under) x11 V3) ∧
          (((p0 : Int) == 1) = false →
            CallV Try.prog 67 #[r2.val, r2.val] V4 fun v V6 => ∃ r5 : NumV, v = r5.val ∧ -- (num.Num).Mul
            CallV Try.prog 66 #[r1.val, r5.val] V6 fun v V7 => ∃ r6 : NumV, v = r6.val ∧ -- (num.Num).Sub
            ((0 : Int) ≤ x11.t34 ∧ (x11.t34 : Int) < (Int.toNat p1 : Nat)) ∧
            0 + Int.toNat x11.t34 * 5 + 5 ≤ List.length x11.o31 ∧
            I_transform_Window_1 (C_transform_Window_1.mk r1.re.neg r1.re.mag r1.im.neg r1.im.mag r1.under) (L_transform_Window_1.mk (IntKind.i64.wrap (x11.t34 + 1)) (setL x11.o31 (0 + Int.toNat x11.t34 * 5) [.bool r6.re.neg, r6.re.mag.v, .bool r6.im.neg, r6.im.mag.v, r6.under.v])) V7 ∧ mu_transform_Window_1 (C_transform_Window_1.mk r1.re.neg r1.re.mag r1.im.neg r1.im.mag r1.under) (L_transform_Window_1.mk (IntKind.i64.wrap (x11.t34 + 1)) (setL x11.o31 (0 + Int.toNat x11.t34 * 5) [.bool r6.re.neg, r6.re.mag.v, .bool r6.im.neg, r6.im.mag.v, r6.under.v])) V7 < mu_transform_Window_1 (C_transform_Window_1.mk r1.re.neg r1.re.mag r1.im.neg r1.im.mag r1.under) x11 V3))) ∧
        ((decide ((x11.t34 : Int) < ((Int.toNat p1 : Nat) : Int))) = false →
          ∀ (b1 : Nat) (V8 : View), View.le V3 V8 → V8 b1 = some (List.toArray x11.o31) →
      R (.tuple #[(Sl.mk (some (Addr.mk b1 0 none)) (Int.toNat p1) (Int.toNat p1)).v, .int .i64 0]) V8)))) :
  CallV Try.prog 20 #[.int .i64 p0, .int .i64 p1] V R :=
  calls_of_vc (Shp := Shp) hmixed Try.func20 (c := Try.f20.body.getD .skip) (args := [.int .i64 p0, .int .i64 p1]) (by kernel_rfl)
    (.seq (.reg [⟨4, 2, false⟩, ⟨5, 2, false⟩]) (.cut Unit L_transform_Window_0 (fun _ => ()) (fun c x => { tm := spT 79 0 [(0, .val (.int .i64 p0)), (1, .val (.int .i64 p1))], own := spO 79 0 [] }) I_transform_Window_0 (.block (.seq (.reg [⟨12, 2, false⟩, ⟨13, 0, false⟩, ⟨14, 2, true⟩, ⟨15, 2, false⟩, ⟨16, 0, false⟩, ⟨17, 2, false⟩, ⟨11, 2, false⟩]) (.cond (.seq (.reg [⟨4, 2, false⟩, ⟨5, 2, false⟩]) .leaf) (.seq (.reg [⟨19, 2, false⟩, ⟨20, 0, false⟩, ⟨21, 2, true⟩, ⟨22, 2, false⟩, ⟨23, 0, false⟩, ⟨24, 2, false⟩, ⟨25, 2, true⟩, ⟨26, 2, false⟩, ⟨27, 0, false⟩, ⟨28, 2, false⟩, ⟨18, 2, false⟩]) (.cond (.seq (.reg [⟨4, 2, false⟩, ⟨5, 2, false⟩]) .leaf) .leaf))))) (.seq (.reg [⟨29, 10, false⟩, ⟨6, 3, false⟩, ⟨6, 6, false⟩]) (.seq (.reg [⟨30, 2, false⟩, ⟨31, 3, false⟩, ⟨7, 2, false⟩]) (.seq (.seq (.reg [⟨32, 2, false⟩, ⟨33, 7, false⟩, ⟨34, 2, false⟩]) (.block (.loop C_transform_Window_1 L_transform_Window_1 (fun σ => C_transform_Window_1.mk (gBool (gOwn σ 6 0)) (Sl.mk (gSlA (gOwn σ 6 1)) (gSlL (gOwn σ 6 1)) (gSlC (gOwn σ 6 1))) (gBool (gOwn σ 6 2)) (Sl.mk (gSlA (gOwn σ 6 3)) (gSlL (gOwn σ 6 3)) (gSlC (gOwn σ 6 3))) (Sl.mk (gSlA (gOwn σ 6 4)) (gSlL (gOwn σ 6 4)) (gSlC (gOwn σ 6 4)))) (fun c x => { tm := spT 79 0 [(0, .val (.int .i64 p0)), (1, .val (.int .i64 p1)), (6, .own 6 0), (7, .osl 31 0 (Int.toNat p1) (Int.toNat p1)), (33, .val (.int .i64 ((Int.toNat p1 : Nat) : Int))), (34, .val (.int .i64 x.t34))], own := spO 79 0 [(6, ⟨67, .fixed [.val (.bool c.o6_0), .val (c.o6_1.v), .val (.bool c.o6_2), .val (c.o6_3.v), .val (c.o6_4.v)]⟩), (31, ⟨67, .dyn x.o31⟩)] }) I_transform_Window_1 mu_transform_Window_1 (.seq (.reg [⟨35, 0, false⟩]) (.seq (.cond .leaf .leaf) (.seq (.block (.seq (.reg [⟨36, 2, false⟩, ⟨8, 2, false⟩]) (.seq (.reg [⟨38, 2, false⟩, ⟨39, 0, false⟩, ⟨40, 2, false⟩, ⟨41, 0, false⟩, ⟨42, 0, false⟩, ⟨43, 2, false⟩, ⟨44, 0, false⟩, ⟨45, 2, false⟩, ⟨46, 0, false⟩, ⟨47, 0, false⟩, ⟨48, 0, false⟩, ⟨49, 2, false⟩, ⟨50, 0, false⟩, ⟨51, 10, false⟩, ⟨37, 2, false⟩, ⟨52, 0, false⟩, ⟨53, 0, false⟩, ⟨9, 3, false⟩, ⟨9, 6, false⟩, ⟨10, 2, false⟩]) (.seq (.reg [⟨54, 2, false⟩]) (.block (.seq (.reg [⟨64, 0, false⟩, ⟨63, 2, false⟩]) (.cond (.reg [⟨65, 2, false⟩, ⟨66, 2, false⟩, ⟨6, 4, false⟩, ⟨68, 7, false⟩, ⟨31, 6, false⟩]) (.seq (.reg [⟨70, 0, false⟩, ⟨69, 2, false⟩]) (.cond (.reg [⟨71, 2, false⟩, ⟨72, 2, false⟩, ⟨6, 4, false⟩, ⟨9, 4, false⟩, ⟨75, 10, false⟩, ⟨76, 7, false⟩, ⟨31, 6, false⟩]) (.draw [(0, ⟨55, 2, false⟩), (1, ⟨56, 2, false⟩), (2, ⟨6, 4, false⟩), (3, ⟨9, 4, false⟩), (4, ⟨9, 4, false⟩), (5, ⟨60, 10, false⟩), (6, ⟨61, 10, false⟩), (7, ⟨62, 7, false⟩), (8, ⟨31, 6, false⟩)] [0, 0, 0, 0, 0, 24, 60, 127, 255])))))))))) (.reg [⟨77, 0, false⟩, ⟨34, 2, false⟩]))))))) (.seq (.reg [⟨78, 2, false⟩, ⟨4, 2, false⟩, ⟨5, 2, false⟩]) (.pub 31 .leaf)))))))
    (Eq.mpr (by kernel_rfl) (show (((decide ((p1 : Int) < 1)) = true →
      (true = true →
        R (.tuple #[(Sl.mk none 0 0).v, .int .i64 4]) V) ∧
      (true = false →
        (((p0 : Int) != 0) = true →
        (((p0 : Int) != 1) = true →
        (((p0 : Int) != 2) = true →
          R (.tuple #[(Sl.mk none 0 0).v, .int .i64 1]) V) ∧
        (((p0 : Int) != 2) = false →
          ∃ x2 : L_transform_Window_0, ((SV.val (.int .i64 p0) = SV.val (.int .i64 p0) ∧ SV.val (.int .i64 p1) = SV.val (.int .i64 p1) ∧ True) ∧ (True)) ∧ I_transform_Window_0 () x2 V)) ∧
        (((p0 : Int) != 1) = false →
        (false = true →
          R (.tuple #[(Sl.mk none 0 0).v, .int .i64 1]) V) ∧
        (false = false →
          ∃ x3 : L_transform_Window_0, ((SV.val (.int .i64 p0) = SV.val (.int .i64 p0) ∧ SV.val (.int .i64 p1) = SV.val (.int .i64 p1) ∧ True) ∧ (True)) ∧ I_transform_Window_0 () x3 V))) ∧
        (((p0 : Int) != 0) = false →
        (false = true →
        (((p0 : Int) != 2) = true →
          R (.tuple #[(Sl.mk none 0 0).v, .int .i64 1]) V) ∧
        (((p0 : Int) != 2) = false →
          ∃ x4 : L_transform_Window_0, ((SV.val (.int .i64 p0) = SV.val (.int .i64 p0) ∧ SV.val (.int .i64 p1) = SV.val (.int .i64 p1) ∧ True) ∧ (True)) ∧ I_transform_Window_0 () x4 V)) ∧
        (false = false →
        (false = true →
          R (.tuple #[(Sl.mk none 0 0).v, .int .i64 1]) V) ∧
        (false = false →
          ∃ x5 : L_transform_Window_0, ((SV.val (.int .i64 p0) = SV.val (.int .i64 p0) ∧ SV.val (.int .i64 p1) = SV.val (.int .i64 p1) ∧ True) ∧ (True)) ∧ I_transform_Window_0 () x5 V))))) ∧
      ((decide ((p1 : Int) < 1)) = false →
      ((decide ((p1 : Int) > 64)) = true →
        R (.tuple #[(Sl.mk none 0 0).v, .int .i64 4]) V) ∧
      ((decide ((p1 : Int) > 64)) = false →
        (((p0 : Int) != 0) = true →
        (((p0 : Int) != 1) = true →
        (((p0 : Int) != 2) = true →
          R (.tuple #[(Sl.mk none 0 0).v, .int .i64 1]) V) ∧
        (((p0 : Int) != 2) = false →
          ∃ x6 : L_transform_Window_0, ((SV.val (.int .i64 p0) = SV.val (.int .i64 p0) ∧ SV.val (.int .i64 p1) = SV.val (.int .i64 p1) ∧ True) ∧ (True)) ∧ I_transform_Window_0 () x6 V)) ∧
        (((p0 : Int) != 1) = false →
        (false = true →
          R (.tuple #[(Sl.mk none 0 0).v, .int .i64 1]) V) ∧
        (false = false →
          ∃ x7 : L_transform_Window_0, ((SV.val (.int .i64 p0) = SV.val (.int .i64 p0) ∧ SV.val (.int .i64 p1) = SV.val (.int .i64 p1) ∧ True) ∧ (True)) ∧ I_transform_Window_0 () x7 V))) ∧
        (((p0 : Int) != 0) = false →
        (false = true →
        (((p0 : Int) != 2) = true →
          R (.tuple #[(Sl.mk none 0 0).v, .int .i64 1]) V) ∧
        (((p0 : Int) != 2) = false →
          ∃ x8 : L_transform_Window_0, ((SV.val (.int .i64 p0) = SV.val (.int .i64 p0) ∧ SV.val (.int .i64 p1) = SV.val (.int .i64 p1) ∧ True) ∧ (True)) ∧ I_transform_Window_0 () x8 V)) ∧
        (false = false →
        (false = true →
          R (.tuple #[(Sl.mk none 0 0).v, .int .i64 1]) V) ∧
        (false = false →
          ∃ x9 : L_transform_Window_0, ((SV.val (.int .i64 p0) = SV.val (.int .i64 p0) ∧ SV.val (.int .i64 p1) = SV.val (.int .i64 p1) ∧ True) ∧ (True)) ∧ I_transform_Window_0 () x9 V)))))) ∧
    (∀ (x1 : L_transform_Window_0) (V1 : View), View.le V V1 → I_transform_Window_0 () x1 V1 →
      CallV Try.prog 60 #[.int .i64 1] V1 fun v V2 => ∃ r1 : NumV, v = r1.val ∧ -- num.Int
      ((0 : Int) ≤ p1 ∧ (p1 : Int) ≤ p1 ∧ (88 : Int) * p1 ≤ 281474976710656 ∧ (p1 : Int) ≤ 9223372036854775807) ∧
      (∃ x10 : L_transform_Window_1, ((SV.val (.int .i64 p0) = SV.val (.int .i64 p0) ∧ SV.val (.int .i64 p1) = SV.val (.int .i64 p1) ∧ SV.own 6 0 = SV.own 6 0 ∧ SV.osl 31 0 (Int.toNat p1) (Int.toNat p1) = SV.osl 31 0 (Int.toNat p1) (Int.toNat p1) ∧ SV.val (.int .i64 ((Int.toNat p1 : Nat) : Int)) = SV.val (.int .i64 ((Int.toNat p1 : Nat) : Int)) ∧ SV.val (.int .i64 0) = SV.val (.int .i64 x10.t34) ∧ True) ∧ ((some (⟨67, .fixed [.val (.bool r1.re.neg), .val (r1.re.mag.v), .val (.bool r1.im.neg), .val (r1.im.mag.v), .val (r1.under.v)]⟩) : Option OB) = some (⟨67, .fixed [.val (.bool r1.re.neg), .val (r1.re.mag.v), .val (.bool r1.im.neg), .val (r1.im.mag.v), .val (r1.under.v)]⟩) ∧ (some (⟨67, .dyn ((List.replicate (Int.toNat p1) [Value.bool false, Value.slice none 0 0, Value.bool false, Value.slice none 0 0, Value.slice none 0 0]).flatten)⟩) : Option OB) = some (⟨67, .dyn x10.o31⟩) ∧ True)) ∧ I_transform_Window_1 (C_transform_Window_1.mk r1.re.neg r1.re.mag r1.im.neg r1.im.mag r1.under) x10 V2) ∧
      (∀ (x11 : L_transform_Window_1) (V3 : View), View.le V2 V3 → I_transform_Window_1 (C_transform_Window_1.mk r1.re.neg r1.re.mag r1.im.neg r1.im.mag r1.under) x11 V3 →
        ((decide ((x11.t34 : Int) < ((Int.toNat p1 : Nat) : Int))) = true →
          CallV Try.prog 59 #[.int .i64 (if ((IntKind.i64.wrap ((IntKind.i64.wrap (p1 - 1)) - (IntKind.i64.wrap (2 * x11.t34)))) : Int) > (IntKind.i64.wrap ((IntKind.i64.wrap ((IntKind.i64.wrap (2 * x11.t34)) - p1)) + 1)) then (IntKind.i64.wrap ((IntKind.i64.wrap (p1 - 1)) - (IntKind.i64.wrap (2 * x11.t34)))) else (IntKind.i64.wrap ((IntKind.i64.wrap ((IntKind.i64.wrap (2 * x11.t34)) - p1)) + 1))), .int .i64 0, .int .i64 (IntKind.i64.wrap (p1 + 1))] V3 fun v V4 => ∃ (r2 : NumV) (r3 : Int), v = .tuple #[r2.val, .int .i64 r3] ∧ -- num.New
        (((p0 : Int) == 0) = true →
          ((0 : Int) ≤ x11.t34 ∧ (x11.t34 : Int) < (Int.toNat p1 : Nat)) ∧
          0 + Int.toNat x11.t34 * 5 + 5 ≤ List.length x11.o31 ∧
          ∃ x12 : L_transform_Window_1, ((SV.val (.int .i64 p0) = SV.val (.int .i64 p0) ∧ SV.val (.int .i64 p1) = SV.val (.int .i64 p1) ∧ SV.own 6 0 = SV.own 6 0 ∧ SV.osl 31 0 (Int.toNat p1) (Int.toNat p1) = SV.osl 31 0 (Int.toNat p1) (Int.toNat p1) ∧ SV.val (.int .i64 ((Int.toNat p1 : Nat) : Int)) = SV.val (.int .i64 ((Int.toNat p1 : Nat) : Int)) ∧ SV.val (.int .i64 (IntKind.i64.wrap (x11.t34 + 1))) = SV.val (.int .i64 x12.t34) ∧ True) ∧ ((some (⟨67, .fixed [.val (.bool r1.re.neg), .val (r1.re.mag.v), .val (.bool r1.im.neg), .val (r1.im.mag.v), .val (r1.under.v)]⟩) : Option OB) = some (⟨67, .fixed [.val (.bool r1.re.neg), .val (r1.re.mag.v), .val (.bool r1.im.neg), .val (r1.im.mag.v), .val (r1.under.v)]⟩) ∧ (some (⟨67, .dyn (setL x11.o31 (0 + Int.toNat x11.t34 * 5) [.bool r1.re.neg, r1.re.mag.v, .bool r1.im.neg, r1.im.mag.v, r1.under.v])⟩) : Option OB) = some (⟨67, .dyn x12.o31⟩) ∧ True)) ∧ I_transform_Window_1 (C_transform_Window_1.mk r1.re.neg r1.re.mag r1.im.neg r1.im.mag r1.under) x12 V4 ∧ mu_transform_Window_1 (C_transform_Window_1.mk r1.re.neg r1.re.mag r1.im.neg r1.im.mag r1.under) x12 V4 < mu_transform_Window_1 (C_transform_Window_1.mk r1.re.neg r1.re.mag r1.im.neg r1.im.mag r1.under) x11 V3) ∧
        (((p0 : Int) == 0) = false →
          (((p0 : Int) == 1) = true →
            CallV Try.prog 66 #[r1.val, r2.val] V4 fun v V5 => ∃ r4 : NumV, v = r4.val ∧ -- (num.Num).Sub
            ((0 : Int) ≤ x11.t34 ∧ (x11.t34 : Int) < (Int.toNat p1 : Nat)) ∧
            0 + Int.toNat x11.t34 * 5 + 5 ≤ List.length x11.o31 ∧
            ∃ x13 : L_transform_Window_1, ((SV.val (.int .i64 p0) = SV.val (.int .i64 p0) ∧ SV.val (.int .i64 p1) = SV.val (.int .i64 p1) ∧ SV.own 6 0 = SV.own 6 0 ∧ SV.osl 31 0 (Int.toNat p1) (Int.toNat p1) = SV.osl 31 0 (Int.toNat p1) (Int.toNat p1) ∧ SV.val (.int .i64 ((Int.toNat p1 : Nat) : Int)) = SV.val (.int .i64 ((Int.toNat p1 : Nat) : Int)) ∧ SV.val (.int .i64 (IntKind.i64.wrap (x11.t34 + 1))) = SV.val (.int .i64 x13.t34) ∧ True) ∧ ((some (⟨67, .fixed [.val (.bool r1.re.neg), .val (r1.re.mag.v), .val (.bool r1.im.neg), .val (r1.im.mag.v), .val (r1.under.v)]⟩) : Option OB) = some (⟨67, .fixed [.val (.bool r1.re.neg), .val (r1.re.mag.v), .val (.bool r1.im.neg), .val (r1.im.mag.v), .val (r1.under.v)]⟩) ∧ (some (⟨67, .dyn (setL x11.o31 (0 + Int.toNat x11.t34 * 5) [.bool r4.re.neg, r4.re.mag.v, .bool r4.im.neg, r4.im.mag.v, r4.under.v])⟩) : Option OB) = some (⟨67, .dyn x13.o31⟩) ∧ True)) ∧ I_transform_Window_1 (C_transform_Window_1.mk r1.re.neg r1.re.mag r1.im.neg r1.im.mag r1.under) x13 V5 ∧ mu_transform_Window_1 (C_transform_Window_1.mk r1.re.neg r1.re.mag r1.im.neg r1.im.mag r1.under) x13 V5 < mu_transform_Window_1 (C_transform_Window_1.mk r1.re.neg r1.re.mag r1.im.neg r1.im.mag r1.under) x11 V3) ∧
          (((p0 : Int) == 1) = false →
            CallV Try.prog 67 #[r2.val, r2.val] V4 fun v V6 => ∃ r5 : NumV, v = r5.val ∧ -- (num.Num).Mul
            CallV Try.prog 66 #[r1.val, r5.val] V6 fun v V7 => ∃ r6 : NumV, v = r6.val ∧ -- (num.Num).Sub
            ((0 : Int) ≤ x11.t34 ∧ (x11.t34 : Int) < (Int.toNat p1 : Nat)) ∧
            0 + Int.toNat x11.t34 * 5 + 5 ≤ List.length x11.o31 ∧
            ∃ x14 : L_transform_Window_1, ((SV.val (.int .i64 p0) = SV.val (.int .i64 p0) ∧ SV.val (.int .i64 p1) = SV.val (.int .i64 p1) ∧ SV.own 6 0 = SV.own 6 0 ∧ SV.osl 31 0 (Int.toNat p1) (Int.toNat p1) = SV.osl 31 0 (Int.toNat p1) (Int.toNat p1) ∧ SV.val (.int .i64 ((Int.toNat p1 : Nat) : Int)) = SV.val (.int .i64 ((Int.toNat p1 : Nat) : Int)) ∧ SV.val (.int .i64 (IntKind.i64.wrap (x11.t34 + 1))) = SV.val (.int .i64 x14.t34) ∧ True) ∧ ((some (⟨67, .fixed [.val (.bool r1.re.neg), .val (r1.re.mag.v), .val (.bool r1.im.neg), .val (r1.im.mag.v), .val (r1.under.v)]⟩) : Option OB) = some (⟨67, .fixed [.val (.bool r1.re.neg), .val (r1.re.mag.v), .val (.bool r1.im.neg), .val (r1.im.mag.v), .val (r1.under.v)]⟩) ∧ (some (⟨67, .dyn (setL x11.o31 (0 + Int.toNat x11.t34 * 5) [.bool r6.re.neg, r6.re.mag.v, .bool r6.im.neg, r6.im.mag.v, r6.under.v])⟩) : Option OB) = some (⟨67, .dyn x14.o31⟩) ∧ True)) ∧ I_transform_Window_1 (C_transform_Window_1.mk r1.re.neg r1.re.mag r1.im.neg r1.im.mag r1.under) x14 V7 ∧ mu_transform_Window_1 (C_transform_Window_1.mk r1.re.neg r1.re.mag r1.im.neg r1.im.mag r1.under) x14 V7 < mu_transform_Window_1 (C_transform_Window_1.mk r1.re.neg r1.re.mag r1.im.neg r1.im.mag r1.under) x11 V3))) ∧
        ((decide ((x11.t34 : Int) < ((Int.toNat p1 : Nat) : Int))) = false →
          ∀ (b1 : Nat) (V8 : View), View.le V3 V8 → V8 b1 = some (List.toArray x11.o31) →
      R (.tuple #[(Sl.mk (some (Addr.mk b1 0 none)) (Int.toNat p1) (Int.toNat p1)).v, .int .i64 0]) V8))) from ⟨⟨fun h17 => ⟨fun h8 => ((h.1.1 h17).1 h8), fun h8 => ⟨fun h7 => ⟨fun h3 => ⟨fun h1 => (((((h.1.1 h17).2 h8).1 h7).1 h3).1 h1), fun h1 => ⟨(L_transform_Window_0.mk ()), ⟨⟨rfl, rfl, trivial⟩, trivial⟩, (((((h.1.1 h17).2 h8).1 h7).1 h3).2 h1)⟩⟩, fun h3 => ⟨fun h2 => (((((h.1.1 h17).2 h8).1 h7).2 h3).1 h2), fun h2 => ⟨(L_transform_Window_0.mk ()), ⟨⟨rfl, rfl, trivial⟩, trivial⟩, (((((h.1.1 h17).2 h8).1 h7).2 h3).2 h2)⟩⟩⟩, fun h7 => ⟨fun h6 => ⟨fun h4 => (((((h.1.1 h17).2 h8).2 h7).1 h6).1 h4), fun h4 => ⟨(L_transform_Window_0.mk ()), ⟨⟨rfl, rfl, trivial⟩, trivial⟩, (((((h.1.1 h17).2 h8).2 h7).1 h6).2 h4)⟩⟩, fun h6 => ⟨fun h5 => (((((h.1.1 h17).2 h8).2 h7).2 h6).1 h5), fun h5 => ⟨(L_transform_Window_0.mk ()), ⟨⟨rfl, rfl, trivial⟩, trivial⟩, (((((h.1.1 h17).2 h8).2 h7).2 h6).2 h5)⟩⟩⟩⟩⟩, fun h17 => ⟨fun h16 => ((h.1.2 h17).1 h16), fun h16 => ⟨fun h15 => ⟨fun h11 => ⟨fun h9 => (((((h.1.2 h17).2 h16).1 h15).1 h11).1 h9), fun h9 => ⟨(L_transform_Window_0.mk ()), ⟨⟨rfl, rfl, trivial⟩, trivial⟩, (((((h.1.2 h17).2 h16).1 h15).1 h11).2 h9)⟩⟩, fun h11 => ⟨fun h10 => (((((h.1.2 h17).2 h16).1 h15).2 h11).1 h10), fun h10 => ⟨(L_transform_Window_0.mk ()), ⟨⟨rfl, rfl, trivial⟩, trivial⟩, (((((h.1.2 h17).2 h16).1 h15).2 h11).2 h10)⟩⟩⟩, fun h15 => ⟨fun h14 => ⟨fun h12 => (((((h.1.2 h17).2 h16).2 h15).1 h14).1 h12), fun h12 => ⟨(L_transform_Window_0.mk ()), ⟨⟨rfl, rfl, trivial⟩, trivial⟩, (((((h.1.2 h17).2 h16).2 h15).1 h14).2 h12)⟩⟩, fun h14 => ⟨fun h13 => (((((h.1.2 h17).2 h16).2 h15).2 h14).1 h13), fun h13 => ⟨(L_transform_Window_0.mk ()), ⟨⟨rfl, rfl, trivial⟩, trivial⟩, (((((h.1.2 h17).2 h16).2 h15).2 h14).2 h13)⟩⟩⟩⟩⟩⟩, fun x1 V1 h35 h36 => (CallV.mono (h.2 x1 V1 h35 h36) (fun _ _ _ ⟨r1, h34, h33⟩ => ⟨r1, h34, ⟨h33.1, ⟨⟨(L_transform_Window_1.mk 0 ((List.replicate (Int.toNat p1) [Value.bool false, Value.slice none 0 0, Value.bool false, Value.slice none 0 0, Value.slice none 0 0]).flatten)), ⟨⟨rfl, rfl, rfl, rfl, rfl, rfl, trivial⟩, ⟨rfl, rfl, trivial⟩⟩, h33.2.1⟩, fun x11 V3 h31 h32 => ⟨fun h30 => (CallV.mono ((h33.2.2 x11 V3 h31 h32).1 h30) (fun _ _ _ ⟨r2, r3, h27, h26⟩ => ⟨r2, r3, h27, ⟨fun h25 => ⟨(h26.1 h25).1, ⟨(h26.1 h25).2.1, ⟨(L_transform_Window_1.mk (IntKind.i64.wrap (x11.t34 + 1)) (setL x11.o31 (0 + Int.toNat x11.t34 * 5) [.bool r1.re.neg, r1.re.mag.v, .bool r1.im.neg, r1.im.mag.v, r1.under.v])), ⟨⟨rfl, rfl, rfl, rfl, rfl, rfl, trivial⟩, ⟨rfl, rfl, trivial⟩⟩, (h26.1 h25).2.2.1, (h26.1 h25).2.2.2⟩⟩⟩, fun h25 => ⟨fun h24 => (CallV.mono ((h26.2 h25).1 h24) (fun _ _ _ ⟨r4, h19, h18⟩ => ⟨r4, h19, ⟨h18.1, ⟨h18.2.1, ⟨(L_transform_Window_1.mk (IntKind.i64.wrap (x11.t34 + 1)) (setL x11.o31 (0 + Int.toNat x11.t34 * 5) [.bool r4.re.neg, r4.re.mag.v, .bool r4.im.neg, r4.im.mag.v, r4.under.v])), ⟨⟨rfl, rfl, rfl, rfl, rfl, rfl, trivial⟩, ⟨rfl, rfl, trivial⟩⟩, h18.2.2.1, h18.2.2.2⟩⟩⟩⟩)), fun h24 => (CallV.mono ((h26.2 h25).2 h24) (fun _ _ _ ⟨r5, h23, h22⟩ => ⟨r5, h23, (CallV.mono h22 (fun _ _ _ ⟨r6, h21, h20⟩ => ⟨r6, h21, ⟨h20.1, ⟨h20.2.1, ⟨(L_transform_Window_1.mk (IntKind.i64.wrap (x11.t34 + 1)) (setL x11.o31 (0 + Int.toNat x11.t34 * 5) [.bool r6.re.neg, r6.re.mag.v, .bool r6.im.neg, r6.im.mag.v, r6.under.v])), ⟨⟨rfl, rfl, rfl, rfl, rfl, rfl, trivial⟩, ⟨rfl, rfl, trivial⟩⟩, h20.2.2.1, h20.2.2.2⟩⟩⟩⟩))⟩))⟩⟩⟩)), fun h30 => (fun b1 V8 h28 h29 => (((h33.2.2 x11 V3 h31 h32).2 h30) b1 V8 h28 h29))⟩⟩⟩⟩))⟩))

end Go.Proofs.Ytcapadojlaojkaa
