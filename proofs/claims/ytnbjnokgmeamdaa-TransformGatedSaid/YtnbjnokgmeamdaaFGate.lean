/- Made by a program of this repo (gen.py): what each function asks of the functions that it calls. -/
import Derived.Test.YtnbjnokgmeamdaaP
set_option maxRecDepth 100000
set_option maxHeartbeats 4000000
namespace Go.Proofs.Ytnbjnokgmeamdaa
open Go Go.Vc Go.Proofs

structure L_transform_within_0 where
  t11 : Int
  o8 : List Value
/-- waveport/transform.within -/
theorem transform_within_vc (p0 : GateV) (p1 : Int) (V : View) (R : Value → View → Prop) (I_transform_within_0 : Unit → L_transform_within_0 → View → Prop) (mu_transform_within_0 : Unit → L_transform_within_0 → View → Nat)
  (h :
    ((0 : Int) ≤ p1 ∧ (p1 : Int) ≤ p1 ∧ (1 : Int) * p1 ≤ 281474976710656 ∧ (p1 : Int) ≤ 9223372036854775807) ∧
    I_transform_within_0 () (L_transform_within_0.mk 0 ((List.replicate (Int.toNat p1) [Value.bool false]).flatten)) V ∧
    (∀ (x2 : L_transform_within_0) (V1 : View), View.le V V1 → I_transform_within_0 () x2 V1 →
      ((decide ((x2.t11 : Int) < p0.count)) = true →
        (p1 : Int) ≠ 0 ∧
      ((0 : Int) ≤ (Int.tmod (IntKind.i64.wrap (p0.from_ + x2.t11)) p1) ∧ ((Int.tmod (IntKind.i64.wrap (p0.from_ + x2.t11)) p1) : Int) < (Int.toNat p1 : Nat)) ∧
      0 + Int.toNat (Int.tmod (IntKind.i64.wrap (p0.from_ + x2.t11)) p1) * 1 + 1 ≤ List.length x2.o8 ∧
      I_transform_within_0 () (L_transform_within_0.mk (IntKind.i64.wrap (x2.t11 + 1)) (List.set x2.o8 (0 + Int.toNat (Int.tmod (IntKind.i64.wrap (p0.from_ + x2.t11)) p1) * 1) (.bool true))) V1 ∧ mu_transform_within_0 () (L_transform_within_0.mk (IntKind.i64.wrap (x2.t11 + 1)) (List.set x2.o8 (0 + Int.toNat (Int.tmod (IntKind.i64.wrap (p0.from_ + x2.t11)) p1) * 1) (.bool true))) V1 < mu_transform_within_0 () x2 V1) ∧
      ((decide ((x2.t11 : Int) < p0.count)) = false →
        ∀ (b1 : Nat) (V2 : View), View.le V1 V2 → V2 b1 = some (List.toArray x2.o8) →
    R ((Sl.mk (some (Addr.mk b1 0 none)) (Int.toNat p1) (Int.toNat p1)).v) V2))) :
  CallV Try.prog 58 #[p0.val, .int .i64 p1] V R :=
  calls_of_vc (Shp := Shp) hmixed Try.func58 (c := Try.f58.body.getD .skip) (args := [p0.val, .int .i64 p1]) (by kernel_rfl)
    (.seq (.reg [⟨2, 3, false⟩, ⟨4, 2, false⟩]) (.seq (.reg [⟨7, 2, false⟩, ⟨8, 3, false⟩, ⟨5, 2, false⟩]) (.seq (.seq (.reg [⟨9, 7, false⟩, ⟨2, 4, false⟩, ⟨11, 2, false⟩]) (.block (.loop Unit L_transform_within_0 (fun _ => ()) (fun c x => { tm := spT 24 0 [(1, .val (.int .i64 p1)), (2, .own 2 0), (5, .osl 8 0 (Int.toNat p1) (Int.toNat p1)), (10, .val (.int .i64 p0.count)), (11, .val (.int .i64 x.t11))], own := spO 24 0 [(2, ⟨50, .fixed [.val (.int .i64 p0.from_), .val (.int .i64 p0.count)]⟩), (8, ⟨4, .dyn x.o8⟩)] }) I_transform_within_0 mu_transform_within_0 (.seq (.reg [⟨12, 0, false⟩]) (.seq (.cond .leaf .leaf) (.seq (.block (.seq (.reg [⟨13, 2, false⟩, ⟨6, 2, false⟩]) (.reg [⟨14, 2, false⟩, ⟨15, 7, false⟩, ⟨2, 4, false⟩, ⟨17, 2, false⟩, ⟨18, 0, false⟩, ⟨19, 2, false⟩, ⟨20, 12, false⟩, ⟨21, 7, false⟩, ⟨8, 6, false⟩]))) (.reg [⟨22, 0, false⟩, ⟨11, 2, false⟩]))))))) (.seq (.reg [⟨23, 2, false⟩, ⟨4, 2, false⟩]) (.pub 8 .leaf)))))
    (Eq.mpr (by kernel_rfl) (show ((0 : Int) ≤ p1 ∧ (p1 : Int) ≤ p1 ∧ (1 : Int) * p1 ≤ 281474976710656 ∧ (p1 : Int) ≤ 9223372036854775807) ∧
    (∃ x1 : L_transform_within_0, ((SV.val (.int .i64 p1) = SV.val (.int .i64 p1) ∧ SV.own 2 0 = SV.own 2 0 ∧ SV.osl 8 0 (Int.toNat p1) (Int.toNat p1) = SV.osl 8 0 (Int.toNat p1) (Int.toNat p1) ∧ SV.val (.int .i64 p0.count) = SV.val (.int .i64 p0.count) ∧ SV.val (.int .i64 0) = SV.val (.int .i64 x1.t11) ∧ True) ∧ ((some (⟨50, .fixed [.val (.int .i64 p0.from_), .val (.int .i64 p0.count)]⟩) : Option OB) = some (⟨50, .fixed [.val (.int .i64 p0.from_), .val (.int .i64 p0.count)]⟩) ∧ (some (⟨4, .dyn ((List.replicate (Int.toNat p1) [Value.bool false]).flatten)⟩) : Option OB) = some (⟨4, .dyn x1.o8⟩) ∧ True)) ∧ I_transform_within_0 () x1 V) ∧
    (∀ (x2 : L_transform_within_0) (V1 : View), View.le V V1 → I_transform_within_0 () x2 V1 →
      ((decide ((x2.t11 : Int) < p0.count)) = true →
        (p1 : Int) ≠ 0 ∧
      ((0 : Int) ≤ (Int.tmod (IntKind.i64.wrap (p0.from_ + x2.t11)) p1) ∧ ((Int.tmod (IntKind.i64.wrap (p0.from_ + x2.t11)) p1) : Int) < (Int.toNat p1 : Nat)) ∧
      0 + Int.toNat (Int.tmod (IntKind.i64.wrap (p0.from_ + x2.t11)) p1) * 1 + 1 ≤ List.length x2.o8 ∧
      ∃ x3 : L_transform_within_0, ((SV.val (.int .i64 p1) = SV.val (.int .i64 p1) ∧ SV.own 2 0 = SV.own 2 0 ∧ SV.osl 8 0 (Int.toNat p1) (Int.toNat p1) = SV.osl 8 0 (Int.toNat p1) (Int.toNat p1) ∧ SV.val (.int .i64 p0.count) = SV.val (.int .i64 p0.count) ∧ SV.val (.int .i64 (IntKind.i64.wrap (x2.t11 + 1))) = SV.val (.int .i64 x3.t11) ∧ True) ∧ ((some (⟨50, .fixed [.val (.int .i64 p0.from_), .val (.int .i64 p0.count)]⟩) : Option OB) = some (⟨50, .fixed [.val (.int .i64 p0.from_), .val (.int .i64 p0.count)]⟩) ∧ (some (⟨4, .dyn (List.set x2.o8 (0 + Int.toNat (Int.tmod (IntKind.i64.wrap (p0.from_ + x2.t11)) p1) * 1) (.bool true))⟩) : Option OB) = some (⟨4, .dyn x3.o8⟩) ∧ True)) ∧ I_transform_within_0 () x3 V1 ∧ mu_transform_within_0 () x3 V1 < mu_transform_within_0 () x2 V1) ∧
      ((decide ((x2.t11 : Int) < p0.count)) = false →
        ∀ (b1 : Nat) (V2 : View), View.le V1 V2 → V2 b1 = some (List.toArray x2.o8) →
    R ((Sl.mk (some (Addr.mk b1 0 none)) (Int.toNat p1) (Int.toNat p1)).v) V2)) from ⟨h.1, ⟨⟨(L_transform_within_0.mk 0 ((List.replicate (Int.toNat p1) [Value.bool false]).flatten)), ⟨⟨rfl, rfl, rfl, rfl, rfl, trivial⟩, ⟨rfl, rfl, trivial⟩⟩, h.2.1⟩, fun x2 V1 h4 h5 => ⟨fun h3 => ⟨((h.2.2 x2 V1 h4 h5).1 h3).1, ⟨((h.2.2 x2 V1 h4 h5).1 h3).2.1, ⟨((h.2.2 x2 V1 h4 h5).1 h3).2.2.1, ⟨(L_transform_within_0.mk (IntKind.i64.wrap (x2.t11 + 1)) (List.set x2.o8 (0 + Int.toNat (Int.tmod (IntKind.i64.wrap (p0.from_ + x2.t11)) p1) * 1) (.bool true))), ⟨⟨rfl, rfl, rfl, rfl, rfl, trivial⟩, ⟨rfl, rfl, trivial⟩⟩, ((h.2.2 x2 V1 h4 h5).1 h3).2.2.2.1, ((h.2.2 x2 V1 h4 h5).1 h3).2.2.2.2⟩⟩⟩⟩, fun h3 => (fun b1 V2 h1 h2 => (((h.2.2 x2 V1 h4 h5).2 h3) b1 V2 h1 h2))⟩⟩⟩))

structure L_transform_Cut_num_Num__0 where
  t25 : Int
  o19 : List Value
structure C_transform_Cut_num_Num__0 where
  t23 : Sl
  t24 : Int
/-- waveport/transform.Cut[waveport/num.Num] -/
theorem transform_Cut_num_Num__vc (p0 : Sl) (p1 : GateV) (V : View) (R : Value → View → Prop) (I_transform_Cut_num_Num__0 : C_transform_Cut_num_Num__0 → L_transform_Cut_num_Num__0 → View → Prop) (mu_transform_Cut_num_Num__0 : C_transform_Cut_num_Num__0 → L_transform_Cut_num_Num__0 → View → Nat)
  (h :
    CallV Try.prog 57 #[p1.val, .int .i64 (p0.len : Int)] V fun v V1 => ∃ r1 : Int, v = .int .i64 r1 ∧ -- transform.valid
    (((r1 : Int) != 0) = true →
      R (.tuple #[(Sl.mk none 0 0).v, .int .i64 r1]) V1) ∧
    (((r1 : Int) != 0) = false →
      ((0 : Int) ≤ (p0.len : Int) ∧ ((p0.len : Int) : Int) ≤ (p0.len : Int) ∧ (88 : Int) * (p0.len : Int) ≤ 281474976710656 ∧ ((p0.len : Int) : Int) ≤ 9223372036854775807) ∧
    CallV Try.prog 58 #[p1.val, .int .i64 (p0.len : Int)] V1 fun v V2 => ∃ r2 : Sl, v = r2.v ∧ -- transform.within
    I_transform_Cut_num_Num__0 (C_transform_Cut_num_Num__0.mk r2 (r2.len : Int)) (L_transform_Cut_num_Num__0.mk 0 ((List.replicate (Int.toNat (p0.len : Int)) [Value.bool false, Value.slice none 0 0, Value.bool false, Value.slice none 0 0, Value.slice none 0 0]).flatten)) V2 ∧
    (∀ (x2 : L_transform_Cut_num_Num__0) (V3 : View), View.le V2 V3 → I_transform_Cut_num_Num__0 (C_transform_Cut_num_Num__0.mk r2 (r2.len : Int)) x2 V3 →
      ((decide ((x2.t25 : Int) < (r2.len : Int))) = true →
        ((0 : Int) ≤ x2.t25 ∧ (x2.t25 : Int) < (r2.len : Nat) ∧ Option.isSome r2.a = true) ∧
      ∃ x3 : Bool, View.load V3 (Option.map (fun q => Addr.add q (Int.toNat x2.t25 * 1)) r2.a) = some (.bool x3) ∧
      CallV Try.prog 59 #[.int .i64 0, .int .i64 1] V3 fun v V4 => ∃ r3 : NumV, v = r3.val ∧ -- transform.of[num.Num]
      ((0 : Int) ≤ x2.t25 ∧ (x2.t25 : Int) < (Int.toNat (p0.len : Int) : Nat)) ∧
      0 + Int.toNat x2.t25 * 5 + 5 ≤ List.length x2.o19 ∧
      (x3 = true →
        ((0 : Int) ≤ x2.t25 ∧ (x2.t25 : Int) < (p0.len : Nat) ∧ Option.isSome p0.a = true) ∧
        ∃ x4 : NumV, View.has V4 (Option.map (fun q => Addr.add q (Int.toNat x2.t25 * 5)) p0.a) (x4.val).cells.toList ∧ Option.isSome (Option.map (fun q => Addr.add q (Int.toNat x2.t25 * 5)) p0.a) = true ∧
        ((0 : Int) ≤ x2.t25 ∧ (x2.t25 : Int) < (Int.toNat (p0.len : Int) : Nat)) ∧
        0 + Int.toNat x2.t25 * 5 + 5 ≤ List.length (setL x2.o19 (0 + Int.toNat x2.t25 * 5) [.bool r3.re.neg, r3.re.mag.v, .bool r3.im.neg, r3.im.mag.v, r3.under.v]) ∧
        I_transform_Cut_num_Num__0 (C_transform_Cut_num_Num__0.mk r2 (r2.len : Int)) (L_transform_Cut_num_Num__0.mk (IntKind.i64.wrap (x2.t25 + 1)) (setL (setL x2.o19 (0 + Int.toNat x2.t25 * 5) [.bool r3.re.neg, r3.re.mag.v, .bool r3.im.neg, r3.im.mag.v, r3.under.v]) (0 + Int.toNat x2.t25 * 5) [.bool x4.re.neg, x4.re.mag.v, .bool x4.im.neg, x4.im.mag.v, x4.under.v])) V4 ∧ mu_transform_Cut_num_Num__0 (C_transform_Cut_num_Num__0.mk r2 (r2.len : Int)) (L_transform_Cut_num_Num__0.mk (IntKind.i64.wrap (x2.t25 + 1)) (setL (setL x2.o19 (0 + Int.toNat x2.t25 * 5) [.bool r3.re.neg, r3.re.mag.v, .bool r3.im.neg, r3.im.mag.v, r3.under.v]) (0 + Int.toNat x2.t25 * 5) [.bool x4.re.neg, x4.re.mag.v, .bool x4.im.neg, x4.im.mag.v, x4.under.v])) V4 < mu_transform_Cut_num_Num__0 (C_transform_Cut_num_Num__0.mk r2 (r2.len : Int)) x2 V3) ∧
      (x3 = false →
        I_transform_Cut_num_Num__0 (C_transform_Cut_num_Num__0.mk r2 (r2.len : Int)) (L_transform_Cut_num_Num__0.mk (IntKind.i64.wrap (x2.t25 + 1)) (setL x2.o19 (0 + Int.toNat x2.t25 * 5) [.bool r3.re.neg, r3.re.mag.v, .bool r3.im.neg, r3.im.mag.v, r3.under.v])) V4 ∧ mu_transform_Cut_num_Num__0 (C_transform_Cut_num_Num__0.mk r2 (r2.len : Int)) (L_transform_Cut_num_Num__0.mk (IntKind.i64.wrap (x2.t25 + 1)) (setL x2.o19 (0 + Int.toNat x2.t25 * 5) [.bool r3.re.neg, r3.re.mag.v, .bool r3.im.neg, r3.im.mag.v, r3.under.v])) V4 < mu_transform_Cut_num_Num__0 (C_transform_Cut_num_Num__0.mk r2 (r2.len : Int)) x2 V3)) ∧
      ((decide ((x2.t25 : Int) < (r2.len : Int))) = false →
        ∀ (b1 : Nat) (V5 : View), View.le V3 V5 → V5 b1 = some (List.toArray x2.o19) →
    R (.tuple #[(Sl.mk (some (Addr.mk b1 0 none)) (Int.toNat (p0.len : Int)) (Int.toNat (p0.len : Int))).v, .int .i64 0]) V5)))) :
  CallV Try.prog 22 #[p0.v, p1.val] V R :=
  calls_of_vc (Shp := Shp) hmixed Try.func22 (c := Try.f22.body.getD .skip) (args := [p0.v, p1.val]) (by kernel_rfl)
    (.seq (.reg [⟨3, 3, false⟩, ⟨4, 2, false⟩, ⟨5, 2, false⟩]) (.seq (.seq (.reg [⟨3, 4, false⟩, ⟨11, 2, false⟩, ⟨12, 0, false⟩, ⟨13, 10, false⟩, ⟨6, 2, false⟩]) (.seq (.reg [⟨14, 2, false⟩, ⟨15, 0, false⟩]) (.cond (.seq (.reg [⟨16, 2, false⟩, ⟨4, 2, false⟩, ⟨5, 2, false⟩]) .leaf) .leaf))) (.seq (.reg [⟨17, 2, false⟩, ⟨18, 0, false⟩, ⟨19, 3, false⟩, ⟨7, 2, false⟩]) (.seq (.seq (.reg [⟨3, 4, false⟩, ⟨21, 2, false⟩, ⟨22, 0, false⟩, ⟨23, 10, false⟩, ⟨24, 0, false⟩, ⟨25, 2, false⟩]) (.block (.loop C_transform_Cut_num_Num__0 L_transform_Cut_num_Num__0 (fun σ => C_transform_Cut_num_Num__0.mk (Sl.mk (gSlA (gTm σ 23)) (gSlL (gTm σ 23)) (gSlC (gTm σ 23))) (gInt (gTm σ 24))) (fun c x => { tm := spT 44 0 [(0, .val (p0.v)), (7, .osl 19 0 (Int.toNat (p0.len : Int)) (Int.toNat (p0.len : Int))), (23, .val (c.t23.v)), (24, .val (.int .i64 c.t24)), (25, .val (.int .i64 x.t25))], own := spO 44 0 [(19, ⟨31, .dyn x.o19⟩)] }) I_transform_Cut_num_Num__0 mu_transform_Cut_num_Num__0 (.seq (.reg [⟨26, 0, false⟩]) (.seq (.cond .leaf .leaf) (.seq (.block (.seq (.reg [⟨27, 2, false⟩, ⟨28, 7, false⟩, ⟨29, 5, false⟩, ⟨8, 2, false⟩, ⟨9, 2, false⟩]) (.seq (.reg [⟨30, 2, false⟩, ⟨31, 2, false⟩, ⟨32, 10, false⟩, ⟨33, 7, false⟩, ⟨19, 6, false⟩]) (.seq (.reg [⟨34, 2, false⟩]) (.cond (.reg [⟨35, 2, false⟩, ⟨36, 2, false⟩, ⟨37, 2, false⟩, ⟨38, 2, false⟩, ⟨39, 7, false⟩, ⟨40, 5, false⟩, ⟨41, 7, false⟩, ⟨19, 6, false⟩]) .leaf))))) (.reg [⟨42, 0, false⟩, ⟨25, 2, false⟩]))))))) (.seq (.reg [⟨43, 2, false⟩, ⟨4, 2, false⟩, ⟨5, 2, false⟩]) (.pub 19 .leaf))))))
    (Eq.mpr (by kernel_rfl) (show CallV Try.prog 57 #[p1.val, .int .i64 (p0.len : Int)] V fun v V1 => ∃ r1 : Int, v = .int .i64 r1 ∧ -- transform.valid
    (((r1 : Int) != 0) = true →
      R (.tuple #[(Sl.mk none 0 0).v, .int .i64 r1]) V1) ∧
    (((r1 : Int) != 0) = false →
      ((0 : Int) ≤ (p0.len : Int) ∧ ((p0.len : Int) : Int) ≤ (p0.len : Int) ∧ (88 : Int) * (p0.len : Int) ≤ 281474976710656 ∧ ((p0.len : Int) : Int) ≤ 9223372036854775807) ∧
    CallV Try.prog 58 #[p1.val, .int .i64 (p0.len : Int)] V1 fun v V2 => ∃ r2 : Sl, v = r2.v ∧ -- transform.within
    (∃ x1 : L_transform_Cut_num_Num__0, ((SV.val (p0.v) = SV.val (p0.v) ∧ SV.osl 19 0 (Int.toNat (p0.len : Int)) (Int.toNat (p0.len : Int)) = SV.osl 19 0 (Int.toNat (p0.len : Int)) (Int.toNat (p0.len : Int)) ∧ SV.val (r2.v) = SV.val (r2.v) ∧ SV.val (.int .i64 (r2.len : Int)) = SV.val (.int .i64 (r2.len : Int)) ∧ SV.val (.int .i64 0) = SV.val (.int .i64 x1.t25) ∧ True) ∧ ((some (⟨31, .dyn ((List.replicate (Int.toNat (p0.len : Int)) [Value.bool false, Value.slice none 0 0, Value.bool false, Value.slice none 0 0, Value.slice none 0 0]).flatten)⟩) : Option OB) = some (⟨31, .dyn x1.o19⟩) ∧ True)) ∧ I_transform_Cut_num_Num__0 (C_transform_Cut_num_Num__0.mk r2 (r2.len : Int)) x1 V2) ∧
    (∀ (x2 : L_transform_Cut_num_Num__0) (V3 : View), View.le V2 V3 → I_transform_Cut_num_Num__0 (C_transform_Cut_num_Num__0.mk r2 (r2.len : Int)) x2 V3 →
      ((decide ((x2.t25 : Int) < (r2.len : Int))) = true →
        ((0 : Int) ≤ x2.t25 ∧ (x2.t25 : Int) < (r2.len : Nat) ∧ Option.isSome r2.a = true) ∧
      ∃ x3 : Bool, View.load V3 (Option.map (fun q => Addr.add q (Int.toNat x2.t25 * 1)) r2.a) = some (.bool x3) ∧
      CallV Try.prog 59 #[.int .i64 0, .int .i64 1] V3 fun v V4 => ∃ r3 : NumV, v = r3.val ∧ -- transform.of[num.Num]
      ((0 : Int) ≤ x2.t25 ∧ (x2.t25 : Int) < (Int.toNat (p0.len : Int) : Nat)) ∧
      0 + Int.toNat x2.t25 * 5 + 5 ≤ List.length x2.o19 ∧
      (x3 = true →
        ((0 : Int) ≤ x2.t25 ∧ (x2.t25 : Int) < (p0.len : Nat) ∧ Option.isSome p0.a = true) ∧
        ∃ x4 : NumV, View.has V4 (Option.map (fun q => Addr.add q (Int.toNat x2.t25 * 5)) p0.a) (x4.val).cells.toList ∧ Option.isSome (Option.map (fun q => Addr.add q (Int.toNat x2.t25 * 5)) p0.a) = true ∧
        ((0 : Int) ≤ x2.t25 ∧ (x2.t25 : Int) < (Int.toNat (p0.len : Int) : Nat)) ∧
        0 + Int.toNat x2.t25 * 5 + 5 ≤ List.length (setL x2.o19 (0 + Int.toNat x2.t25 * 5) [.bool r3.re.neg, r3.re.mag.v, .bool r3.im.neg, r3.im.mag.v, r3.under.v]) ∧
        ∃ x5 : L_transform_Cut_num_Num__0, ((SV.val (p0.v) = SV.val (p0.v) ∧ SV.osl 19 0 (Int.toNat (p0.len : Int)) (Int.toNat (p0.len : Int)) = SV.osl 19 0 (Int.toNat (p0.len : Int)) (Int.toNat (p0.len : Int)) ∧ SV.val (r2.v) = SV.val (r2.v) ∧ SV.val (.int .i64 (r2.len : Int)) = SV.val (.int .i64 (r2.len : Int)) ∧ SV.val (.int .i64 (IntKind.i64.wrap (x2.t25 + 1))) = SV.val (.int .i64 x5.t25) ∧ True) ∧ ((some (⟨31, .dyn (setL (setL x2.o19 (0 + Int.toNat x2.t25 * 5) [.bool r3.re.neg, r3.re.mag.v, .bool r3.im.neg, r3.im.mag.v, r3.under.v]) (0 + Int.toNat x2.t25 * 5) [.bool x4.re.neg, x4.re.mag.v, .bool x4.im.neg, x4.im.mag.v, x4.under.v])⟩) : Option OB) = some (⟨31, .dyn x5.o19⟩) ∧ True)) ∧ I_transform_Cut_num_Num__0 (C_transform_Cut_num_Num__0.mk r2 (r2.len : Int)) x5 V4 ∧ mu_transform_Cut_num_Num__0 (C_transform_Cut_num_Num__0.mk r2 (r2.len : Int)) x5 V4 < mu_transform_Cut_num_Num__0 (C_transform_Cut_num_Num__0.mk r2 (r2.len : Int)) x2 V3) ∧
      (x3 = false →
        ∃ x6 : L_transform_Cut_num_Num__0, ((SV.val (p0.v) = SV.val (p0.v) ∧ SV.osl 19 0 (Int.toNat (p0.len : Int)) (Int.toNat (p0.len : Int)) = SV.osl 19 0 (Int.toNat (p0.len : Int)) (Int.toNat (p0.len : Int)) ∧ SV.val (r2.v) = SV.val (r2.v) ∧ SV.val (.int .i64 (r2.len : Int)) = SV.val (.int .i64 (r2.len : Int)) ∧ SV.val (.int .i64 (IntKind.i64.wrap (x2.t25 + 1))) = SV.val (.int .i64 x6.t25) ∧ True) ∧ ((some (⟨31, .dyn (setL x2.o19 (0 + Int.toNat x2.t25 * 5) [.bool r3.re.neg, r3.re.mag.v, .bool r3.im.neg, r3.im.mag.v, r3.under.v])⟩) : Option OB) = some (⟨31, .dyn x6.o19⟩) ∧ True)) ∧ I_transform_Cut_num_Num__0 (C_transform_Cut_num_Num__0.mk r2 (r2.len : Int)) x6 V4 ∧ mu_transform_Cut_num_Num__0 (C_transform_Cut_num_Num__0.mk r2 (r2.len : Int)) x6 V4 < mu_transform_Cut_num_Num__0 (C_transform_Cut_num_Num__0.mk r2 (r2.len : Int)) x2 V3)) ∧
      ((decide ((x2.t25 : Int) < (r2.len : Int))) = false →
        ∀ (b1 : Nat) (V5 : View), View.le V3 V5 → V5 b1 = some (List.toArray x2.o19) →
    R (.tuple #[(Sl.mk (some (Addr.mk b1 0 none)) (Int.toNat (p0.len : Int)) (Int.toNat (p0.len : Int))).v, .int .i64 0]) V5))) from (CallV.mono h (fun _ _ _ ⟨r1, h18, h17⟩ => ⟨r1, h18, ⟨fun h16 => (h17.1 h16), fun h16 => ⟨(h17.2 h16).1, (CallV.mono (h17.2 h16).2 (fun _ _ _ ⟨r2, h15, h14⟩ => ⟨r2, h15, ⟨⟨(L_transform_Cut_num_Num__0.mk 0 ((List.replicate (Int.toNat (p0.len : Int)) [Value.bool false, Value.slice none 0 0, Value.bool false, Value.slice none 0 0, Value.slice none 0 0]).flatten)), ⟨⟨rfl, rfl, rfl, rfl, rfl, trivial⟩, ⟨rfl, trivial⟩⟩, h14.1⟩, fun x2 V3 h12 h13 => ⟨fun h11 => ⟨((h14.2 x2 V3 h12 h13).1 h11).1, (match ((h14.2 x2 V3 h12 h13).1 h11).2 with | ⟨x3, h8, h7⟩ => ⟨x3, h8, (CallV.mono h7 (fun _ _ _ ⟨r3, h6, h5⟩ => ⟨r3, h6, ⟨h5.1, ⟨h5.2.1, ⟨fun h4 => ⟨(h5.2.2.1 h4).1, (match (h5.2.2.1 h4).2 with | ⟨x4, h2, h3, h1⟩ => ⟨x4, h2, h3, ⟨h1.1, ⟨h1.2.1, ⟨(L_transform_Cut_num_Num__0.mk (IntKind.i64.wrap (x2.t25 + 1)) (setL (setL x2.o19 (0 + Int.toNat x2.t25 * 5) [.bool r3.re.neg, r3.re.mag.v, .bool r3.im.neg, r3.im.mag.v, r3.under.v]) (0 + Int.toNat x2.t25 * 5) [.bool x4.re.neg, x4.re.mag.v, .bool x4.im.neg, x4.im.mag.v, x4.under.v])), ⟨⟨rfl, rfl, rfl, rfl, rfl, trivial⟩, ⟨rfl, trivial⟩⟩, h1.2.2.1, h1.2.2.2⟩⟩⟩⟩)⟩, fun h4 => ⟨(L_transform_Cut_num_Num__0.mk (IntKind.i64.wrap (x2.t25 + 1)) (setL x2.o19 (0 + Int.toNat x2.t25 * 5) [.bool r3.re.neg, r3.re.mag.v, .bool r3.im.neg, r3.im.mag.v, r3.under.v])), ⟨⟨rfl, rfl, rfl, rfl, rfl, trivial⟩, ⟨rfl, trivial⟩⟩, (h5.2.2.2 h4).1, (h5.2.2.2 h4).2⟩⟩⟩⟩⟩))⟩)⟩, fun h11 => (fun b1 V5 h9 h10 => (((h14.2 x2 V3 h12 h13).2 h11) b1 V5 h9 h10))⟩⟩⟩))⟩⟩⟩))))

/-- waveport/transform.Gated[waveport/num.Num] -/
theorem transform_Gated_num_Num__vc (p0 : Sl) (p1 : Sl) (p2 : GateV) (V : View) (R : Value → View → Prop) 
  (h :
    CallV Try.prog 30 #[p0.v, p1.v] V fun v V1 => ∃ (r1 : Sl) (r2 : Int), v = .tuple #[r1.v, .int .i64 r2] ∧ -- transform.FastBack[num.Num]
    (((r2 : Int) != 0) = true →
      R (.tuple #[(Sl.mk none 0 0).v, .int .i64 r2]) V1) ∧
    (((r2 : Int) != 0) = false →
      CallV Try.prog 22 #[r1.v, p2.val] V1 fun v V2 => ∃ (r3 : Sl) (r4 : Int), v = .tuple #[r3.v, .int .i64 r4] ∧ -- transform.Cut[num.Num]
    (((r4 : Int) != 0) = true →
      R (.tuple #[(Sl.mk none 0 0).v, .int .i64 r4]) V2) ∧
    (((r4 : Int) != 0) = false →
      CallV Try.prog 28 #[r3.v, p1.v] V2 fun v V3 => ∃ (r5 : Sl) (r6 : Int), v = .tuple #[r5.v, .int .i64 r6] ∧ -- transform.Fast[num.Num]
    R (.tuple #[r5.v, .int .i64 r6]) V3))) :
  CallV Try.prog 35 #[p0.v, p1.v, p2.val] V R :=
  calls_of_vc (Shp := Shp) hmixed Try.func35 (c := Try.f35.body.getD .skip) (args := [p0.v, p1.v, p2.val]) (by kernel_rfl)
    (.seq (.reg [⟨5, 3, false⟩, ⟨6, 2, false⟩, ⟨7, 2, false⟩]) (.seq (.reg [⟨11, 2, false⟩, ⟨12, 2, false⟩, ⟨13, 10, false⟩, ⟨10, 2, false⟩, ⟨14, 0, false⟩, ⟨15, 0, false⟩, ⟨8, 2, false⟩, ⟨9, 2, false⟩]) (.seq (.seq (.reg [⟨16, 2, false⟩, ⟨17, 0, false⟩]) (.cond (.seq (.reg [⟨18, 2, false⟩, ⟨6, 2, false⟩, ⟨7, 2, false⟩]) .leaf) .leaf)) (.seq (.reg [⟨20, 2, false⟩, ⟨5, 4, false⟩, ⟨22, 10, false⟩, ⟨19, 2, false⟩, ⟨23, 0, false⟩, ⟨24, 0, false⟩, ⟨8, 2, false⟩, ⟨9, 2, false⟩]) (.seq (.seq (.reg [⟨25, 2, false⟩, ⟨26, 0, false⟩]) (.cond (.seq (.reg [⟨27, 2, false⟩, ⟨6, 2, false⟩, ⟨7, 2, false⟩]) .leaf) .leaf)) (.seq (.reg [⟨28, 2, false⟩, ⟨29, 2, false⟩, ⟨30, 10, false⟩, ⟨31, 0, false⟩, ⟨32, 0, false⟩, ⟨6, 2, false⟩, ⟨7, 2, false⟩]) .leaf))))))
    (Eq.mpr (by kernel_rfl) h)

structure L_waveportlaw07_plus_0 where
  t12 : Int
  o9 : List Value
/-- waveport/waveportlaw07.plus -/
theorem waveportlaw07_plus_vc (p0 : Sl) (p1 : Sl) (V : View) (R : Value → View → Prop) (I_waveportlaw07_plus_0 : Unit → L_waveportlaw07_plus_0 → View → Prop) (mu_waveportlaw07_plus_0 : Unit → L_waveportlaw07_plus_0 → View → Nat)
  (h :
    ((0 : Int) ≤ (p0.len : Int) ∧ ((p0.len : Int) : Int) ≤ (p0.len : Int) ∧ (88 : Int) * (p0.len : Int) ≤ 281474976710656 ∧ ((p0.len : Int) : Int) ≤ 9223372036854775807) ∧
    I_waveportlaw07_plus_0 () (L_waveportlaw07_plus_0.mk 0 ((List.replicate (Int.toNat (p0.len : Int)) [Value.bool false, Value.slice none 0 0, Value.bool false, Value.slice none 0 0, Value.slice none 0 0]).flatten)) V ∧
    (∀ (x2 : L_waveportlaw07_plus_0) (V1 : View), View.le V V1 → I_waveportlaw07_plus_0 () x2 V1 →
      ((decide ((x2.t12 : Int) < ((Int.toNat (p0.len : Int) : Nat) : Int))) = true →
        ((0 : Int) ≤ x2.t12 ∧ (x2.t12 : Int) < (p0.len : Nat) ∧ Option.isSome p0.a = true) ∧
      ∃ x3 : NumV, View.has V1 (Option.map (fun q => Addr.add q (Int.toNat x2.t12 * 5)) p0.a) (x3.val).cells.toList ∧ Option.isSome (Option.map (fun q => Addr.add q (Int.toNat x2.t12 * 5)) p0.a) = true ∧
      ((p1.len : Int) : Int) ≠ 0 ∧
      ((0 : Int) ≤ (Int.tmod x2.t12 (p1.len : Int)) ∧ ((Int.tmod x2.t12 (p1.len : Int)) : Int) < (p1.len : Nat) ∧ Option.isSome p1.a = true) ∧
      ∃ x4 : NumV, View.has V1 (Option.map (fun q => Addr.add q (Int.toNat (Int.tmod x2.t12 (p1.len : Int)) * 5)) p1.a) (x4.val).cells.toList ∧ Option.isSome (Option.map (fun q => Addr.add q (Int.toNat (Int.tmod x2.t12 (p1.len : Int)) * 5)) p1.a) = true ∧
      CallV Try.prog 60 #[x3.val, x4.val] V1 fun v V2 => ∃ r1 : NumV, v = r1.val ∧ -- (num.Num).Add
      ((0 : Int) ≤ x2.t12 ∧ (x2.t12 : Int) < (Int.toNat (p0.len : Int) : Nat)) ∧
      0 + Int.toNat x2.t12 * 5 + 5 ≤ List.length x2.o9 ∧
      I_waveportlaw07_plus_0 () (L_waveportlaw07_plus_0.mk (IntKind.i64.wrap (x2.t12 + 1)) (setL x2.o9 (0 + Int.toNat x2.t12 * 5) [.bool r1.re.neg, r1.re.mag.v, .bool r1.im.neg, r1.im.mag.v, r1.under.v])) V2 ∧ mu_waveportlaw07_plus_0 () (L_waveportlaw07_plus_0.mk (IntKind.i64.wrap (x2.t12 + 1)) (setL x2.o9 (0 + Int.toNat x2.t12 * 5) [.bool r1.re.neg, r1.re.mag.v, .bool r1.im.neg, r1.im.mag.v, r1.under.v])) V2 < mu_waveportlaw07_plus_0 () x2 V1) ∧
      ((decide ((x2.t12 : Int) < ((Int.toNat (p0.len : Int) : Nat) : Int))) = false →
        ∀ (b1 : Nat) (V3 : View), View.le V1 V3 → V3 b1 = some (List.toArray x2.o9) →
    R ((Sl.mk (some (Addr.mk b1 0 none)) (Int.toNat (p0.len : Int)) (Int.toNat (p0.len : Int))).v) V3))) :
  CallV Try.prog 24 #[p0.v, p1.v] V R :=
  calls_of_vc (Shp := Shp) hmixed Try.func24 (c := Try.f24.body.getD .skip) (args := [p0.v, p1.v]) (by kernel_rfl)
    (.seq (.reg [⟨4, 2, false⟩]) (.seq (.reg [⟨7, 2, false⟩, ⟨8, 0, false⟩, ⟨9, 3, false⟩, ⟨5, 2, false⟩]) (.seq (.seq (.reg [⟨10, 2, false⟩, ⟨11, 7, false⟩, ⟨12, 2, false⟩]) (.block (.loop Unit L_waveportlaw07_plus_0 (fun _ => ()) (fun c x => { tm := spT 32 0 [(0, .val (p0.v)), (1, .val (p1.v)), (5, .osl 9 0 (Int.toNat (p0.len : Int)) (Int.toNat (p0.len : Int))), (11, .val (.int .i64 ((Int.toNat (p0.len : Int) : Nat) : Int))), (12, .val (.int .i64 x.t12))], own := spO 32 0 [(9, ⟨31, .dyn x.o9⟩)] }) I_waveportlaw07_plus_0 mu_waveportlaw07_plus_0 (.seq (.reg [⟨13, 0, false⟩]) (.seq (.cond .leaf .leaf) (.seq (.block (.seq (.reg [⟨14, 2, false⟩, ⟨6, 2, false⟩]) (.draw [(0, ⟨15, 2, false⟩), (1, ⟨16, 2, false⟩), (2, ⟨17, 2, false⟩), (3, ⟨18, 2, false⟩), (4, ⟨19, 7, false⟩), (5, ⟨20, 5, false⟩), (6, ⟨21, 2, false⟩), (7, ⟨22, 2, false⟩), (8, ⟨23, 2, false⟩), (9, ⟨24, 0, false⟩), (10, ⟨25, 12, false⟩), (11, ⟨26, 7, false⟩), (12, ⟨27, 5, false⟩), (13, ⟨28, 10, false⟩), (14, ⟨29, 7, false⟩), (15, ⟨9, 6, false⟩)] [0, 0, 0, 0, 12, 28, 0, 0, 0, 256, 896, 1984, 4032, 8188, 16383, 32767]))) (.reg [⟨30, 0, false⟩, ⟨12, 2, false⟩]))))))) (.seq (.reg [⟨31, 2, false⟩, ⟨4, 2, false⟩]) (.pub 9 .leaf)))))
    (Eq.mpr (by kernel_rfl) (show ((0 : Int) ≤ (p0.len : Int) ∧ ((p0.len : Int) : Int) ≤ (p0.len : Int) ∧ (88 : Int) * (p0.len : Int) ≤ 281474976710656 ∧ ((p0.len : Int) : Int) ≤ 9223372036854775807) ∧
    (∃ x1 : L_waveportlaw07_plus_0, ((SV.val (p0.v) = SV.val (p0.v) ∧ SV.val (p1.v) = SV.val (p1.v) ∧ SV.osl 9 0 (Int.toNat (p0.len : Int)) (Int.toNat (p0.len : Int)) = SV.osl 9 0 (Int.toNat (p0.len : Int)) (Int.toNat (p0.len : Int)) ∧ SV.val (.int .i64 ((Int.toNat (p0.len : Int) : Nat) : Int)) = SV.val (.int .i64 ((Int.toNat (p0.len : Int) : Nat) : Int)) ∧ SV.val (.int .i64 0) = SV.val (.int .i64 x1.t12) ∧ True) ∧ ((some (⟨31, .dyn ((List.replicate (Int.toNat (p0.len : Int)) [Value.bool false, Value.slice none 0 0, Value.bool false, Value.slice none 0 0, Value.slice none 0 0]).flatten)⟩) : Option OB) = some (⟨31, .dyn x1.o9⟩) ∧ True)) ∧ I_waveportlaw07_plus_0 () x1 V) ∧
    (∀ (x2 : L_waveportlaw07_plus_0) (V1 : View), View.le V V1 → I_waveportlaw07_plus_0 () x2 V1 →
      ((decide ((x2.t12 : Int) < ((Int.toNat (p0.len : Int) : Nat) : Int))) = true →
        ((0 : Int) ≤ x2.t12 ∧ (x2.t12 : Int) < (p0.len : Nat) ∧ Option.isSome p0.a = true) ∧
      ∃ x3 : NumV, View.has V1 (Option.map (fun q => Addr.add q (Int.toNat x2.t12 * 5)) p0.a) (x3.val).cells.toList ∧ Option.isSome (Option.map (fun q => Addr.add q (Int.toNat x2.t12 * 5)) p0.a) = true ∧
      ((p1.len : Int) : Int) ≠ 0 ∧
      ((0 : Int) ≤ (Int.tmod x2.t12 (p1.len : Int)) ∧ ((Int.tmod x2.t12 (p1.len : Int)) : Int) < (p1.len : Nat) ∧ Option.isSome p1.a = true) ∧
      ∃ x4 : NumV, View.has V1 (Option.map (fun q => Addr.add q (Int.toNat (Int.tmod x2.t12 (p1.len : Int)) * 5)) p1.a) (x4.val).cells.toList ∧ Option.isSome (Option.map (fun q => Addr.add q (Int.toNat (Int.tmod x2.t12 (p1.len : Int)) * 5)) p1.a) = true ∧
      CallV Try.prog 60 #[x3.val, x4.val] V1 fun v V2 => ∃ r1 : NumV, v = r1.val ∧ -- (num.Num).Add
      ((0 : Int) ≤ x2.t12 ∧ (x2.t12 : Int) < (Int.toNat (p0.len : Int) : Nat)) ∧
      0 + Int.toNat x2.t12 * 5 + 5 ≤ List.length x2.o9 ∧
      ∃ x5 : L_waveportlaw07_plus_0, ((SV.val (p0.v) = SV.val (p0.v) ∧ SV.val (p1.v) = SV.val (p1.v) ∧ SV.osl 9 0 (Int.toNat (p0.len : Int)) (Int.toNat (p0.len : Int)) = SV.osl 9 0 (Int.toNat (p0.len : Int)) (Int.toNat (p0.len : Int)) ∧ SV.val (.int .i64 ((Int.toNat (p0.len : Int) : Nat) : Int)) = SV.val (.int .i64 ((Int.toNat (p0.len : Int) : Nat) : Int)) ∧ SV.val (.int .i64 (IntKind.i64.wrap (x2.t12 + 1))) = SV.val (.int .i64 x5.t12) ∧ True) ∧ ((some (⟨31, .dyn (setL x2.o9 (0 + Int.toNat x2.t12 * 5) [.bool r1.re.neg, r1.re.mag.v, .bool r1.im.neg, r1.im.mag.v, r1.under.v])⟩) : Option OB) = some (⟨31, .dyn x5.o9⟩) ∧ True)) ∧ I_waveportlaw07_plus_0 () x5 V2 ∧ mu_waveportlaw07_plus_0 () x5 V2 < mu_waveportlaw07_plus_0 () x2 V1) ∧
      ((decide ((x2.t12 : Int) < ((Int.toNat (p0.len : Int) : Nat) : Int))) = false →
        ∀ (b1 : Nat) (V3 : View), View.le V1 V3 → V3 b1 = some (List.toArray x2.o9) →
    R ((Sl.mk (some (Addr.mk b1 0 none)) (Int.toNat (p0.len : Int)) (Int.toNat (p0.len : Int))).v) V3)) from ⟨h.1, ⟨⟨(L_waveportlaw07_plus_0.mk 0 ((List.replicate (Int.toNat (p0.len : Int)) [Value.bool false, Value.slice none 0 0, Value.bool false, Value.slice none 0 0, Value.slice none 0 0]).flatten)), ⟨⟨rfl, rfl, rfl, rfl, rfl, trivial⟩, ⟨rfl, trivial⟩⟩, h.2.1⟩, fun x2 V1 h12 h13 => ⟨fun h11 => ⟨((h.2.2 x2 V1 h12 h13).1 h11).1, (match ((h.2.2 x2 V1 h12 h13).1 h11).2 with | ⟨x3, h7, h8, h6⟩ => ⟨x3, h7, h8, ⟨h6.1, ⟨h6.2.1, (match h6.2.2 with | ⟨x4, h4, h5, h3⟩ => ⟨x4, h4, h5, (CallV.mono h3 (fun _ _ _ ⟨r1, h2, h1⟩ => ⟨r1, h2, ⟨h1.1, ⟨h1.2.1, ⟨(L_waveportlaw07_plus_0.mk (IntKind.i64.wrap (x2.t12 + 1)) (setL x2.o9 (0 + Int.toNat x2.t12 * 5) [.bool r1.re.neg, r1.re.mag.v, .bool r1.im.neg, r1.im.mag.v, r1.under.v])), ⟨⟨rfl, rfl, rfl, rfl, rfl, trivial⟩, ⟨rfl, trivial⟩⟩, h1.2.2.1, h1.2.2.2⟩⟩⟩⟩))⟩)⟩⟩⟩)⟩, fun h11 => (fun b1 V3 h9 h10 => (((h.2.2 x2 V1 h12 h13).2 h11) b1 V3 h9 h10))⟩⟩⟩))

/-- waveport/waveportlaw07.TransformGated -/
theorem waveportlaw07_TransformGated_vc (p0 : Sl) (p1 : Int) (p2 : Int) (p3 : Int) (V : View) (R : Value → View → Prop) 
  (h :
    CallV Try.prog 26 #[p0.v, .int .u8 p1] V fun v V1 => ∃ (r1 : Sl) (r2 : Sl), v = .tuple #[r1.v, r2.v] ∧ -- waveportlaw07.exact
    ((r1.len : Int) : Int) ≠ 0 ∧
    ((IntKind.i64.wrap ((r1.len : Int) + 1)) : Int) ≠ 0 ∧
    CallV Try.prog 21 #[(GateV.mk (Int.tmod (IntKind.i64.wrap p2) (r1.len : Int)) (Int.tmod (IntKind.i64.wrap p3) (IntKind.i64.wrap ((r1.len : Int) + 1)))).val, .int .i64 (r1.len : Int)] V1 fun v V2 => ∃ (r3 : GateV) (r4 : Int), v = .tuple #[r3.val, .int .i64 r4] ∧ -- transform.Rest
    CallV Try.prog 35 #[r1.v, r2.v, (GateV.mk (Int.tmod (IntKind.i64.wrap p2) (r1.len : Int)) (Int.tmod (IntKind.i64.wrap p3) (IntKind.i64.wrap ((r1.len : Int) + 1)))).val] V2 fun v V3 => ∃ (r5 : Sl) (r6 : Int), v = .tuple #[r5.v, .int .i64 r6] ∧ -- transform.Gated[num.Num]
    CallV Try.prog 35 #[r1.v, r2.v, r3.val] V3 fun v V4 => ∃ (r7 : Sl) (r8 : Int), v = .tuple #[r7.v, .int .i64 r8] ∧ -- transform.Gated[num.Num]
    CallV Try.prog 35 #[r1.v, r2.v, (GateV.mk 0 (r1.len : Int)).val] V4 fun v V5 => ∃ (r9 : Sl) (r10 : Int), v = .tuple #[r9.v, .int .i64 r10] ∧ -- transform.Gated[num.Num]
    (((r4 : Int) != 0) = true →
    (true = true →
    (true = true →
    (true = true →
    (true = true →
      R (.bool false) V5) ∧
    (true = false →
      CallV Try.prog 35 #[r5.v, r2.v, (GateV.mk (Int.tmod (IntKind.i64.wrap p2) (r1.len : Int)) (Int.tmod (IntKind.i64.wrap p3) (IntKind.i64.wrap ((r1.len : Int) + 1)))).val] V5 fun v V6 => ∃ (r11 : Sl) (r12 : Int), v = .tuple #[r11.v, .int .i64 r12] ∧ -- transform.Gated[num.Num]
    CallV Try.prog 23 #[r9.v, .int .i64 r10, r1.v, .int .i64 0] V6 fun v V7 => ∃ r13 : Bool, v = .bool r13 ∧ -- waveportlaw07.are
    (r13 = true →
    CallV Try.prog 23 #[r11.v, .int .i64 r12, r5.v, .int .i64 r6] V7 fun v V8 => ∃ r14 : Bool, v = .bool r14 ∧ -- waveportlaw07.are
    (r14 = true →
    CallV Try.prog 24 #[r5.v, r7.v] V8 fun v V9 => ∃ r15 : Sl, v = r15.v ∧ -- waveportlaw07.plus
    CallV Try.prog 23 #[r15.v, .int .i64 0, r1.v, .int .i64 0] V9 fun v V10 => ∃ r16 : Bool, v = .bool r16 ∧ -- waveportlaw07.are
    (r16 = true →
    CallV Try.prog 16 #[] V10 fun v V11 => ∃ r17 : Bool, v = .bool r17 ∧ -- waveportlaw07.awake
    R (.bool r17) V11) ∧
    (r16 = false →
    R (.bool false) V10)) ∧
    (r14 = false →
    (false = true →
    CallV Try.prog 16 #[] V8 fun v V12 => ∃ r18 : Bool, v = .bool r18 ∧ -- waveportlaw07.awake
    R (.bool r18) V12) ∧
    (false = false →
    R (.bool false) V8))) ∧
    (r13 = false →
    (false = true →
    CallV Try.prog 24 #[r5.v, r7.v] V7 fun v V13 => ∃ r19 : Sl, v = r19.v ∧ -- waveportlaw07.plus
    CallV Try.prog 23 #[r19.v, .int .i64 0, r1.v, .int .i64 0] V13 fun v V14 => ∃ r20 : Bool, v = .bool r20 ∧ -- waveportlaw07.are
    (r20 = true →
    CallV Try.prog 16 #[] V14 fun v V15 => ∃ r21 : Bool, v = .bool r21 ∧ -- waveportlaw07.awake
    R (.bool r21) V15) ∧
    (r20 = false →
    R (.bool false) V14)) ∧
    (false = false →
    (false = true →
    CallV Try.prog 16 #[] V7 fun v V16 => ∃ r22 : Bool, v = .bool r22 ∧ -- waveportlaw07.awake
    R (.bool r22) V16) ∧
    (false = false →
    R (.bool false) V7))))) ∧
    (true = false →
    ((((r7.len : Int) : Int) != (r1.len : Int)) = true →
      R (.bool false) V5) ∧
    ((((r7.len : Int) : Int) != (r1.len : Int)) = false →
      CallV Try.prog 35 #[r5.v, r2.v, (GateV.mk (Int.tmod (IntKind.i64.wrap p2) (r1.len : Int)) (Int.tmod (IntKind.i64.wrap p3) (IntKind.i64.wrap ((r1.len : Int) + 1)))).val] V5 fun v V17 => ∃ (r23 : Sl) (r24 : Int), v = .tuple #[r23.v, .int .i64 r24] ∧ -- transform.Gated[num.Num]
    CallV Try.prog 23 #[r9.v, .int .i64 r10, r1.v, .int .i64 0] V17 fun v V18 => ∃ r25 : Bool, v = .bool r25 ∧ -- waveportlaw07.are
    (r25 = true →
    CallV Try.prog 23 #[r23.v, .int .i64 r24, r5.v, .int .i64 r6] V18 fun v V19 => ∃ r26 : Bool, v = .bool r26 ∧ -- waveportlaw07.are
    (r26 = true →
    CallV Try.prog 24 #[r5.v, r7.v] V19 fun v V20 => ∃ r27 : Sl, v = r27.v ∧ -- waveportlaw07.plus
    CallV Try.prog 23 #[r27.v, .int .i64 0, r1.v, .int .i64 0] V20 fun v V21 => ∃ r28 : Bool, v = .bool r28 ∧ -- waveportlaw07.are
    (r28 = true →
    CallV Try.prog 16 #[] V21 fun v V22 => ∃ r29 : Bool, v = .bool r29 ∧ -- waveportlaw07.awake
    R (.bool r29) V22) ∧
    (r28 = false →
    R (.bool false) V21)) ∧
    (r26 = false →
    (false = true →
    CallV Try.prog 16 #[] V19 fun v V23 => ∃ r30 : Bool, v = .bool r30 ∧ -- waveportlaw07.awake
    R (.bool r30) V23) ∧
    (false = false →
    R (.bool false) V19))) ∧
    (r25 = false →
    (false = true →
    CallV Try.prog 24 #[r5.v, r7.v] V18 fun v V24 => ∃ r31 : Sl, v = r31.v ∧ -- waveportlaw07.plus
    CallV Try.prog 23 #[r31.v, .int .i64 0, r1.v, .int .i64 0] V24 fun v V25 => ∃ r32 : Bool, v = .bool r32 ∧ -- waveportlaw07.are
    (r32 = true →
    CallV Try.prog 16 #[] V25 fun v V26 => ∃ r33 : Bool, v = .bool r33 ∧ -- waveportlaw07.awake
    R (.bool r33) V26) ∧
    (r32 = false →
    R (.bool false) V25)) ∧
    (false = false →
    (false = true →
    CallV Try.prog 16 #[] V18 fun v V27 => ∃ r34 : Bool, v = .bool r34 ∧ -- waveportlaw07.awake
    R (.bool r34) V27) ∧
    (false = false →
    R (.bool false) V18)))))) ∧
    (true = false →
    ((((r5.len : Int) : Int) != (r1.len : Int)) = true →
    (true = true →
      R (.bool false) V5) ∧
    (true = false →
      CallV Try.prog 35 #[r5.v, r2.v, (GateV.mk (Int.tmod (IntKind.i64.wrap p2) (r1.len : Int)) (Int.tmod (IntKind.i64.wrap p3) (IntKind.i64.wrap ((r1.len : Int) + 1)))).val] V5 fun v V28 => ∃ (r35 : Sl) (r36 : Int), v = .tuple #[r35.v, .int .i64 r36] ∧ -- transform.Gated[num.Num]
    CallV Try.prog 23 #[r9.v, .int .i64 r10, r1.v, .int .i64 0] V28 fun v V29 => ∃ r37 : Bool, v = .bool r37 ∧ -- waveportlaw07.are
    (r37 = true →
    CallV Try.prog 23 #[r35.v, .int .i64 r36, r5.v, .int .i64 r6] V29 fun v V30 => ∃ r38 : Bool, v = .bool r38 ∧ -- waveportlaw07.are
    (r38 = true →
    CallV Try.prog 24 #[r5.v, r7.v] V30 fun v V31 => ∃ r39 : Sl, v = r39.v ∧ -- waveportlaw07.plus
    CallV Try.prog 23 #[r39.v, .int .i64 0, r1.v, .int .i64 0] V31 fun v V32 => ∃ r40 : Bool, v = .bool r40 ∧ -- waveportlaw07.are
    (r40 = true →
    CallV Try.prog 16 #[] V32 fun v V33 => ∃ r41 : Bool, v = .bool r41 ∧ -- waveportlaw07.awake
    R (.bool r41) V33) ∧
    (r40 = false →
    R (.bool false) V32)) ∧
    (r38 = false →
    (false = true →
    CallV Try.prog 16 #[] V30 fun v V34 => ∃ r42 : Bool, v = .bool r42 ∧ -- waveportlaw07.awake
    R (.bool r42) V34) ∧
    (false = false →
    R (.bool false) V30))) ∧
    (r37 = false →
    (false = true →
    CallV Try.prog 24 #[r5.v, r7.v] V29 fun v V35 => ∃ r43 : Sl, v = r43.v ∧ -- waveportlaw07.plus
    CallV Try.prog 23 #[r43.v, .int .i64 0, r1.v, .int .i64 0] V35 fun v V36 => ∃ r44 : Bool, v = .bool r44 ∧ -- waveportlaw07.are
    (r44 = true →
    CallV Try.prog 16 #[] V36 fun v V37 => ∃ r45 : Bool, v = .bool r45 ∧ -- waveportlaw07.awake
    R (.bool r45) V37) ∧
    (r44 = false →
    R (.bool false) V36)) ∧
    (false = false →
    (false = true →
    CallV Try.prog 16 #[] V29 fun v V38 => ∃ r46 : Bool, v = .bool r46 ∧ -- waveportlaw07.awake
    R (.bool r46) V38) ∧
    (false = false →
    R (.bool false) V29))))) ∧
    ((((r5.len : Int) : Int) != (r1.len : Int)) = false →
    ((((r7.len : Int) : Int) != (r1.len : Int)) = true →
      R (.bool false) V5) ∧
    ((((r7.len : Int) : Int) != (r1.len : Int)) = false →
      CallV Try.prog 35 #[r5.v, r2.v, (GateV.mk (Int.tmod (IntKind.i64.wrap p2) (r1.len : Int)) (Int.tmod (IntKind.i64.wrap p3) (IntKind.i64.wrap ((r1.len : Int) + 1)))).val] V5 fun v V39 => ∃ (r47 : Sl) (r48 : Int), v = .tuple #[r47.v, .int .i64 r48] ∧ -- transform.Gated[num.Num]
    CallV Try.prog 23 #[r9.v, .int .i64 r10, r1.v, .int .i64 0] V39 fun v V40 => ∃ r49 : Bool, v = .bool r49 ∧ -- waveportlaw07.are
    (r49 = true →
    CallV Try.prog 23 #[r47.v, .int .i64 r48, r5.v, .int .i64 r6] V40 fun v V41 => ∃ r50 : Bool, v = .bool r50 ∧ -- waveportlaw07.are
    (r50 = true →
    CallV Try.prog 24 #[r5.v, r7.v] V41 fun v V42 => ∃ r51 : Sl, v = r51.v ∧ -- waveportlaw07.plus
    CallV Try.prog 23 #[r51.v, .int .i64 0, r1.v, .int .i64 0] V42 fun v V43 => ∃ r52 : Bool, v = .bool r52 ∧ -- waveportlaw07.are
    (r52 = true →
    CallV Try.prog 16 #[] V43 fun v V44 => ∃ r53 : Bool, v = .bool r53 ∧ -- waveportlaw07.awake
    R (.bool r53) V44) ∧
    (r52 = false →
    R (.bool false) V43)) ∧
    (r50 = false →
    (false = true →
    CallV Try.prog 16 #[] V41 fun v V45 => ∃ r54 : Bool, v = .bool r54 ∧ -- waveportlaw07.awake
    R (.bool r54) V45) ∧
    (false = false →
    R (.bool false) V41))) ∧
    (r49 = false →
    (false = true →
    CallV Try.prog 24 #[r5.v, r7.v] V40 fun v V46 => ∃ r55 : Sl, v = r55.v ∧ -- waveportlaw07.plus
    CallV Try.prog 23 #[r55.v, .int .i64 0, r1.v, .int .i64 0] V46 fun v V47 => ∃ r56 : Bool, v = .bool r56 ∧ -- waveportlaw07.are
    (r56 = true →
    CallV Try.prog 16 #[] V47 fun v V48 => ∃ r57 : Bool, v = .bool r57 ∧ -- waveportlaw07.awake
    R (.bool r57) V48) ∧
    (r56 = false →
    R (.bool false) V47)) ∧
    (false = false →
    (false = true →
    CallV Try.prog 16 #[] V40 fun v V49 => ∃ r58 : Bool, v = .bool r58 ∧ -- waveportlaw07.awake
    R (.bool r58) V49) ∧
    (false = false →
    R (.bool false) V40))))))) ∧
    (true = false →
    (((r8 : Int) != 0) = true →
    (true = true →
    (true = true →
      R (.bool false) V5) ∧
    (true = false →
      CallV Try.prog 35 #[r5.v, r2.v, (GateV.mk (Int.tmod (IntKind.i64.wrap p2) (r1.len : Int)) (Int.tmod (IntKind.i64.wrap p3) (IntKind.i64.wrap ((r1.len : Int) + 1)))).val] V5 fun v V50 => ∃ (r59 : Sl) (r60 : Int), v = .tuple #[r59.v, .int .i64 r60] ∧ -- transform.Gated[num.Num]
    CallV Try.prog 23 #[r9.v, .int .i64 r10, r1.v, .int .i64 0] V50 fun v V51 => ∃ r61 : Bool, v = .bool r61 ∧ -- waveportlaw07.are
    (r61 = true →
    CallV Try.prog 23 #[r59.v, .int .i64 r60, r5.v, .int .i64 r6] V51 fun v V52 => ∃ r62 : Bool, v = .bool r62 ∧ -- waveportlaw07.are
    (r62 = true →
    CallV Try.prog 24 #[r5.v, r7.v] V52 fun v V53 => ∃ r63 : Sl, v = r63.v ∧ -- waveportlaw07.plus
    CallV Try.prog 23 #[r63.v, .int .i64 0, r1.v, .int .i64 0] V53 fun v V54 => ∃ r64 : Bool, v = .bool r64 ∧ -- waveportlaw07.are
    (r64 = true →
    CallV Try.prog 16 #[] V54 fun v V55 => ∃ r65 : Bool, v = .bool r65 ∧ -- waveportlaw07.awake
    R (.bool r65) V55) ∧
    (r64 = false →
    R (.bool false) V54)) ∧
    (r62 = false →
    (false = true →
    CallV Try.prog 16 #[] V52 fun v V56 => ∃ r66 : Bool, v = .bool r66 ∧ -- waveportlaw07.awake
    R (.bool r66) V56) ∧
    (false = false →
    R (.bool false) V52))) ∧
    (r61 = false →
    (false = true →
    CallV Try.prog 24 #[r5.v, r7.v] V51 fun v V57 => ∃ r67 : Sl, v = r67.v ∧ -- waveportlaw07.plus
    CallV Try.prog 23 #[r67.v, .int .i64 0, r1.v, .int .i64 0] V57 fun v V58 => ∃ r68 : Bool, v = .bool r68 ∧ -- waveportlaw07.are
    (r68 = true →
    CallV Try.prog 16 #[] V58 fun v V59 => ∃ r69 : Bool, v = .bool r69 ∧ -- waveportlaw07.awake
    R (.bool r69) V59) ∧
    (r68 = false →
    R (.bool false) V58)) ∧
    (false = false →
    (false = true →
    CallV Try.prog 16 #[] V51 fun v V60 => ∃ r70 : Bool, v = .bool r70 ∧ -- waveportlaw07.awake
    R (.bool r70) V60) ∧
    (false = false →
    R (.bool false) V51))))) ∧
    (true = false →
    ((((r7.len : Int) : Int) != (r1.len : Int)) = true →
      R (.bool false) V5) ∧
    ((((r7.len : Int) : Int) != (r1.len : Int)) = false →
      CallV Try.prog 35 #[r5.v, r2.v, (GateV.mk (Int.tmod (IntKind.i64.wrap p2) (r1.len : Int)) (Int.tmod (IntKind.i64.wrap p3) (IntKind.i64.wrap ((r1.len : Int) + 1)))).val] V5 fun v V61 => ∃ (r71 : Sl) (r72 : Int), v = .tuple #[r71.v, .int .i64 r72] ∧ -- transform.Gated[num.Num]
    CallV Try.prog 23 #[r9.v, .int .i64 r10, r1.v, .int .i64 0] V61 fun v V62 => ∃ r73 : Bool, v = .bool r73 ∧ -- waveportlaw07.are
    (r73 = true →
    CallV Try.prog 23 #[r71.v, .int .i64 r72, r5.v, .int .i64 r6] V62 fun v V63 => ∃ r74 : Bool, v = .bool r74 ∧ -- waveportlaw07.are
    (r74 = true →
    CallV Try.prog 24 #[r5.v, r7.v] V63 fun v V64 => ∃ r75 : Sl, v = r75.v ∧ -- waveportlaw07.plus
    CallV Try.prog 23 #[r75.v, .int .i64 0, r1.v, .int .i64 0] V64 fun v V65 => ∃ r76 : Bool, v = .bool r76 ∧ -- waveportlaw07.are
    (r76 = true →
    CallV Try.prog 16 #[] V65 fun v V66 => ∃ r77 : Bool, v = .bool r77 ∧ -- waveportlaw07.awake
    R (.bool r77) V66) ∧
    (r76 = false →
    R (.bool false) V65)) ∧
    (r74 = false →
    (false = true →
    CallV Try.prog 16 #[] V63 fun v V67 => ∃ r78 : Bool, v = .bool r78 ∧ -- waveportlaw07.awake
    R (.bool r78) V67) ∧
    (false = false →
    R (.bool false) V63))) ∧
    (r73 = false →
    (false = true →
    CallV Try.prog 24 #[r5.v, r7.v] V62 fun v V68 => ∃ r79 : Sl, v = r79.v ∧ -- waveportlaw07.plus
    CallV Try.prog 23 #[r79.v, .int .i64 0, r1.v, .int .i64 0] V68 fun v V69 => ∃ r80 : Bool, v = .bool r80 ∧ -- waveportlaw07.are
    (r80 = true →
    CallV Try.prog 16 #[] V69 fun v V70 => ∃ r81 : Bool, v = .bool r81 ∧ -- waveportlaw07.awake
    R (.bool r81) V70) ∧
    (r80 = false →
    R (.bool false) V69)) ∧
    (false = false →
    (false = true →
    CallV Try.prog 16 #[] V62 fun v V71 => ∃ r82 : Bool, v = .bool r82 ∧ -- waveportlaw07.awake
    R (.bool r82) V71) ∧
    (false = false →
    R (.bool false) V62)))))) ∧
    (((r8 : Int) != 0) = false →
    ((((r5.len : Int) : Int) != (r1.len : Int)) = true →
    (true = true →
      R (.bool false) V5) ∧
    (true = false →
      CallV Try.prog 35 #[r5.v, r2.v, (GateV.mk (Int.tmod (IntKind.i64.wrap p2) (r1.len : Int)) (Int.tmod (IntKind.i64.wrap p3) (IntKind.i64.wrap ((r1.len : Int) + 1)))).val] V5 fun v V72 => ∃ (r83 : Sl) (r84 : Int), v = .tuple #[r83.v, .int .i64 r84] ∧ -- transform.Gated[num.Num]
    CallV Try.prog 23 #[r9.v, .int .i64 r10, r1.v, .int .i64 0] V72 fun v V73 => ∃ r85 : Bool, v = .bool r85 ∧ -- waveportlaw07.are
    (r85 = true →
    CallV Try.prog 23 #[r83.v, .int .i64 r84, r5.v, .int .i64 r6] V73 fun v V74 => ∃ r86 : Bool, v = .bool r86 ∧ -- waveportlaw07.are
    (r86 = true →
    CallV Try.prog 24 #[r5.v, r7.v] V74 fun v V75 => ∃ r87 : Sl, v = r87.v ∧ -- waveportlaw07.plus
    CallV Try.prog 23 #[r87.v, .int .i64 0, r1.v, .int .i64 0] V75 fun v V76 => ∃ r88 : Bool, v = .bool r88 ∧ -- waveportlaw07.are
    (r88 = true →
    CallV Try.prog 16 #[] V76 fun v V77 => ∃ r89 : Bool, v = .bool r89 ∧ -- waveportlaw07.awake
    R (.bool r89) V77) ∧
    (r88 = false →
    R (.bool false) V76)) ∧
    (r86 = false →
    (false = true →
    CallV Try.prog 16 #[] V74 fun v V78 => ∃ r90 : Bool, v = .bool r90 ∧ -- waveportlaw07.awake
    R (.bool r90) V78) ∧
    (false = false →
    R (.bool false) V74))) ∧
    (r85 = false →
    (false = true →
    CallV Try.prog 24 #[r5.v, r7.v] V73 fun v V79 => ∃ r91 : Sl, v = r91.v ∧ -- waveportlaw07.plus
    CallV Try.prog 23 #[r91.v, .int .i64 0, r1.v, .int .i64 0] V79 fun v V80 => ∃ r92 : Bool, v = .bool r92 ∧ -- waveportlaw07.are
    (r92 = true →
    CallV Try.prog 16 #[] V80 fun v V81 => ∃ r93 : Bool, v = .bool r93 ∧ -- waveportlaw07.awake
    R (.bool r93) V81) ∧
    (r92 = false →
    R (.bool false) V80)) ∧
    (false = false →
    (false = true →
    CallV Try.prog 16 #[] V73 fun v V82 => ∃ r94 : Bool, v = .bool r94 ∧ -- waveportlaw07.awake
    R (.bool r94) V82) ∧
    (false = false →
    R (.bool false) V73))))) ∧
    ((((r5.len : Int) : Int) != (r1.len : Int)) = false →
    ((((r7.len : Int) : Int) != (r1.len : Int)) = true →
      R (.bool false) V5) ∧
    ((((r7.len : Int) : Int) != (r1.len : Int)) = false →
      CallV Try.prog 35 #[r5.v, r2.v, (GateV.mk (Int.tmod (IntKind.i64.wrap p2) (r1.len : Int)) (Int.tmod (IntKind.i64.wrap p3) (IntKind.i64.wrap ((r1.len : Int) + 1)))).val] V5 fun v V83 => ∃ (r95 : Sl) (r96 : Int), v = .tuple #[r95.v, .int .i64 r96] ∧ -- transform.Gated[num.Num]
    CallV Try.prog 23 #[r9.v, .int .i64 r10, r1.v, .int .i64 0] V83 fun v V84 => ∃ r97 : Bool, v = .bool r97 ∧ -- waveportlaw07.are
    (r97 = true →
    CallV Try.prog 23 #[r95.v, .int .i64 r96, r5.v, .int .i64 r6] V84 fun v V85 => ∃ r98 : Bool, v = .bool r98 ∧ -- waveportlaw07.are
    (r98 = true →
    CallV Try.prog 24 #[r5.v, r7.v] V85 fun v V86 => ∃ r99 : Sl, v = r99.v ∧ -- waveportlaw07.plus
    CallV Try.prog 23 #[r99.v, .int .i64 0, r1.v, .int .i64 0] V86 fun v V87 => ∃ r100 : Bool, v = .bool r100 ∧ -- waveportlaw07.are
    (r100 = true →
    CallV Try.prog 16 #[] V87 fun v V88 => ∃ r101 : Bool, v = .bool r101 ∧ -- waveportlaw07.awake
    R (.bool r101) V88) ∧
    (r100 = false →
    R (.bool false) V87)) ∧
    (r98 = false →
    (false = true →
    CallV Try.prog 16 #[] V85 fun v V89 => ∃ r102 : Bool, v = .bool r102 ∧ -- waveportlaw07.awake
    R (.bool r102) V89) ∧
    (false = false →
    R (.bool false) V85))) ∧
    (r97 = false →
    (false = true →
    CallV Try.prog 24 #[r5.v, r7.v] V84 fun v V90 => ∃ r103 : Sl, v = r103.v ∧ -- waveportlaw07.plus
    CallV Try.prog 23 #[r103.v, .int .i64 0, r1.v, .int .i64 0] V90 fun v V91 => ∃ r104 : Bool, v = .bool r104 ∧ -- waveportlaw07.are
    (r104 = true →
    CallV Try.prog 16 #[] V91 fun v V92 => ∃ r105 : Bool, v = .bool r105 ∧ -- waveportlaw07.awake
    R (.bool r105) V92) ∧
    (r104 = false →
    R (.bool false) V91)) ∧
    (false = false →
    (false = true →
    CallV Try.prog 16 #[] V84 fun v V93 => ∃ r106 : Bool, v = .bool r106 ∧ -- waveportlaw07.awake
    R (.bool r106) V93) ∧
    (false = false →
    R (.bool false) V84)))))))) ∧
    (((r4 : Int) != 0) = false →
    (((r6 : Int) != 0) = true →
    (true = true →
    (true = true →
    (true = true →
      R (.bool false) V5) ∧
    (true = false →
      CallV Try.prog 35 #[r5.v, r2.v, (GateV.mk (Int.tmod (IntKind.i64.wrap p2) (r1.len : Int)) (Int.tmod (IntKind.i64.wrap p3) (IntKind.i64.wrap ((r1.len : Int) + 1)))).val] V5 fun v V94 => ∃ (r107 : Sl) (r108 : Int), v = .tuple #[r107.v, .int .i64 r108] ∧ -- transform.Gated[num.Num]
    CallV Try.prog 23 #[r9.v, .int .i64 r10, r1.v, .int .i64 0] V94 fun v V95 => ∃ r109 : Bool, v = .bool r109 ∧ -- waveportlaw07.are
    (r109 = true →
    CallV Try.prog 23 #[r107.v, .int .i64 r108, r5.v, .int .i64 r6] V95 fun v V96 => ∃ r110 : Bool, v = .bool r110 ∧ -- waveportlaw07.are
    (r110 = true →
    CallV Try.prog 24 #[r5.v, r7.v] V96 fun v V97 => ∃ r111 : Sl, v = r111.v ∧ -- waveportlaw07.plus
    CallV Try.prog 23 #[r111.v, .int .i64 0, r1.v, .int .i64 0] V97 fun v V98 => ∃ r112 : Bool, v = .bool r112 ∧ -- waveportlaw07.are
    (r112 = true →
    CallV Try.prog 16 #[] V98 fun v V99 => ∃ r113 : Bool, v = .bool r113 ∧ -- waveportlaw07.awake
    R (.bool r113) V99) ∧
    (r112 = false →
    R (.bool false) V98)) ∧
    (r110 = false →
    (false = true →
    CallV Try.prog 16 #[] V96 fun v V100 => ∃ r114 : Bool, v = .bool r114 ∧ -- waveportlaw07.awake
    R (.bool r114) V100) ∧
    (false = false →
    R (.bool false) V96))) ∧
    (r109 = false →
    (false = true →
    CallV Try.prog 24 #[r5.v, r7.v] V95 fun v V101 => ∃ r115 : Sl, v = r115.v ∧ -- waveportlaw07.plus
    CallV Try.prog 23 #[r115.v, .int .i64 0, r1.v, .int .i64 0] V101 fun v V102 => ∃ r116 : Bool, v = .bool r116 ∧ -- waveportlaw07.are
    (r116 = true →
    CallV Try.prog 16 #[] V102 fun v V103 => ∃ r117 : Bool, v = .bool r117 ∧ -- waveportlaw07.awake
    R (.bool r117) V103) ∧
    (r116 = false →
    R (.bool false) V102)) ∧
    (false = false →
    (false = true →
    CallV Try.prog 16 #[] V95 fun v V104 => ∃ r118 : Bool, v = .bool r118 ∧ -- waveportlaw07.awake
    R (.bool r118) V104) ∧
    (false = false →
    R (.bool false) V95))))) ∧
    (true = false →
    ((((r7.len : Int) : Int) != (r1.len : Int)) = true →
      R (.bool false) V5) ∧
    ((((r7.len : Int) : Int) != (r1.len : Int)) = false →
      CallV Try.prog 35 #[r5.v, r2.v, (GateV.mk (Int.tmod (IntKind.i64.wrap p2) (r1.len : Int)) (Int.tmod (IntKind.i64.wrap p3) (IntKind.i64.wrap ((r1.len : Int) + 1)))).val] V5 fun v V105 => ∃ (r119 : Sl) (r120 : Int), v = .tuple #[r119.v, .int .i64 r120] ∧ -- transform.Gated[num.Num]
    CallV Try.prog 23 #[r9.v, .int .i64 r10, r1.v, .int .i64 0] V105 fun v V106 => ∃ r121 : Bool, v = .bool r121 ∧ -- waveportlaw07.are
    (r121 = true →
    CallV Try.prog 23 #[r119.v, .int .i64 r120, r5.v, .int .i64 r6] V106 fun v V107 => ∃ r122 : Bool, v = .bool r122 ∧ -- waveportlaw07.are
    (r122 = true →
    CallV Try.prog 24 #[r5.v, r7.v] V107 fun v V108 => ∃ r123 : Sl, v = r123.v ∧ -- waveportlaw07.plus
    CallV Try.prog 23 #[r123.v, .int .i64 0, r1.v, .int .i64 0] V108 fun v V109 => ∃ r124 : Bool, v = .bool r124 ∧ -- waveportlaw07.are
    (r124 = true →
    CallV Try.prog 16 #[] V109 fun v V110 => ∃ r125 : Bool, v = .bool r125 ∧ -- waveportlaw07.awake
    R (.bool r125) V110) ∧
    (r124 = false →
    R (.bool false) V109)) ∧
    (r122 = false →
    (false = true →
    CallV Try.prog 16 #[] V107 fun v V111 => ∃ r126 : Bool, v = .bool r126 ∧ -- waveportlaw07.awake
    R (.bool r126) V111) ∧
    (false = false →
    R (.bool false) V107))) ∧
    (r121 = false →
    (false = true →
    CallV Try.prog 24 #[r5.v, r7.v] V106 fun v V112 => ∃ r127 : Sl, v = r127.v ∧ -- waveportlaw07.plus
    CallV Try.prog 23 #[r127.v, .int .i64 0, r1.v, .int .i64 0] V112 fun v V113 => ∃ r128 : Bool, v = .bool r128 ∧ -- waveportlaw07.are
    (r128 = true →
    CallV Try.prog 16 #[] V113 fun v V114 => ∃ r129 : Bool, v = .bool r129 ∧ -- waveportlaw07.awake
    R (.bool r129) V114) ∧
    (r128 = false →
    R (.bool false) V113)) ∧
    (false = false →
    (false = true →
    CallV Try.prog 16 #[] V106 fun v V115 => ∃ r130 : Bool, v = .bool r130 ∧ -- waveportlaw07.awake
    R (.bool r130) V115) ∧
    (false = false →
    R (.bool false) V106)))))) ∧
    (true = false →
    ((((r5.len : Int) : Int) != (r1.len : Int)) = true →
    (true = true →
      R (.bool false) V5) ∧
    (true = false →
      CallV Try.prog 35 #[r5.v, r2.v, (GateV.mk (Int.tmod (IntKind.i64.wrap p2) (r1.len : Int)) (Int.tmod (IntKind.i64.wrap p3) (IntKind.i64.wrap ((r1.len : Int) + 1)))).val] V5 fun v V116 => ∃ (r131 : Sl) (r132 : Int), v = .tuple #[r131.v, .int .i64 r132] ∧ -- transform.Gated[num.Num]
    CallV Try.prog 23 #[r9.v, .int .i64 r10, r1.v, .int .i64 0] V116 fun v V117 => ∃ r133 : Bool, v = .bool r133 ∧ -- waveportlaw07.are
    (r133 = true →
    CallV Try.prog 23 #[r131.v, .int .i64 r132, r5.v, .int .i64 r6] V117 fun v V118 => ∃ r134 : Bool, v = .bool r134 ∧ -- waveportlaw07.are
    (r134 = true →
    CallV Try.prog 24 #[r5.v, r7.v] V118 fun v V119 => ∃ r135 : Sl, v = r135.v ∧ -- waveportlaw07.plus
    CallV Try.prog 23 #[r135.v, .int .i64 0, r1.v, .int .i64 0] V119 fun v V120 => ∃ r136 : Bool, v = .bool r136 ∧ -- waveportlaw07.are
    (r136 = true →
    CallV Try.prog 16 #[] V120 fun v V121 => ∃ r137 : Bool, v = .bool r137 ∧ -- waveportlaw07.awake
    R (.bool r137) V121) ∧
    (r136 = false →
    R (.bool false) V120)) ∧
    (r134 = false →
    (false = true →
    CallV Try.prog 16 #[] V118 fun v V122 => ∃ r138 : Bool, v = .bool r138 ∧ -- waveportlaw07.awake
    R (.bool r138) V122) ∧
    (false = false →
    R (.bool false) V118))) ∧
    (r133 = false →
    (false = true →
    CallV Try.prog 24 #[r5.v, r7.v] V117 fun v V123 => ∃ r139 : Sl, v = r139.v ∧ -- waveportlaw07.plus
    CallV Try.prog 23 #[r139.v, .int .i64 0, r1.v, .int .i64 0] V123 fun v V124 => ∃ r140 : Bool, v = .bool r140 ∧ -- waveportlaw07.are
    (r140 = true →
    CallV Try.prog 16 #[] V124 fun v V125 => ∃ r141 : Bool, v = .bool r141 ∧ -- waveportlaw07.awake
    R (.bool r141) V125) ∧
    (r140 = false →
    R (.bool false) V124)) ∧
    (false = false →
    (false = true →
    CallV Try.prog 16 #[] V117 fun v V126 => ∃ r142 : Bool, v = .bool r142 ∧ -- waveportlaw07.awake
    R (.bool r142) V126) ∧
    (false = false →
    R (.bool false) V117))))) ∧
    ((((r5.len : Int) : Int) != (r1.len : Int)) = false →
    ((((r7.len : Int) : Int) != (r1.len : Int)) = true →
      R (.bool false) V5) ∧
    ((((r7.len : Int) : Int) != (r1.len : Int)) = false →
      CallV Try.prog 35 #[r5.v, r2.v, (GateV.mk (Int.tmod (IntKind.i64.wrap p2) (r1.len : Int)) (Int.tmod (IntKind.i64.wrap p3) (IntKind.i64.wrap ((r1.len : Int) + 1)))).val] V5 fun v V127 => ∃ (r143 : Sl) (r144 : Int), v = .tuple #[r143.v, .int .i64 r144] ∧ -- transform.Gated[num.Num]
    CallV Try.prog 23 #[r9.v, .int .i64 r10, r1.v, .int .i64 0] V127 fun v V128 => ∃ r145 : Bool, v = .bool r145 ∧ -- waveportlaw07.are
    (r145 = true →
    CallV Try.prog 23 #[r143.v, .int .i64 r144, r5.v, .int .i64 r6] V128 fun v V129 => ∃ r146 : Bool, v = .bool r146 ∧ -- waveportlaw07.are
    (r146 = true →
    CallV Try.prog 24 #[r5.v, r7.v] V129 fun v V130 => ∃ r147 : Sl, v = r147.v ∧ -- waveportlaw07.plus
    CallV Try.prog 23 #[r147.v, .int .i64 0, r1.v, .int .i64 0] V130 fun v V131 => ∃ r148 : Bool, v = .bool r148 ∧ -- waveportlaw07.are
    (r148 = true →
    CallV Try.prog 16 #[] V131 fun v V132 => ∃ r149 : Bool, v = .bool r149 ∧ -- waveportlaw07.awake
    R (.bool r149) V132) ∧
    (r148 = false →
    R (.bool false) V131)) ∧
    (r146 = false →
    (false = true →
    CallV Try.prog 16 #[] V129 fun v V133 => ∃ r150 : Bool, v = .bool r150 ∧ -- waveportlaw07.awake
    R (.bool r150) V133) ∧
    (false = false →
    R (.bool false) V129))) ∧
    (r145 = false →
    (false = true →
    CallV Try.prog 24 #[r5.v, r7.v] V128 fun v V134 => ∃ r151 : Sl, v = r151.v ∧ -- waveportlaw07.plus
    CallV Try.prog 23 #[r151.v, .int .i64 0, r1.v, .int .i64 0] V134 fun v V135 => ∃ r152 : Bool, v = .bool r152 ∧ -- waveportlaw07.are
    (r152 = true →
    CallV Try.prog 16 #[] V135 fun v V136 => ∃ r153 : Bool, v = .bool r153 ∧ -- waveportlaw07.awake
    R (.bool r153) V136) ∧
    (r152 = false →
    R (.bool false) V135)) ∧
    (false = false →
    (false = true →
    CallV Try.prog 16 #[] V128 fun v V137 => ∃ r154 : Bool, v = .bool r154 ∧ -- waveportlaw07.awake
    R (.bool r154) V137) ∧
    (false = false →
    R (.bool false) V128))))))) ∧
    (((r6 : Int) != 0) = false →
    (((r8 : Int) != 0) = true →
    (true = true →
    (true = true →
      R (.bool false) V5) ∧
    (true = false →
      CallV Try.prog 35 #[r5.v, r2.v, (GateV.mk (Int.tmod (IntKind.i64.wrap p2) (r1.len : Int)) (Int.tmod (IntKind.i64.wrap p3) (IntKind.i64.wrap ((r1.len : Int) + 1)))).val] V5 fun v V138 => ∃ (r155 : Sl) (r156 : Int), v = .tuple #[r155.v, .int .i64 r156] ∧ -- transform.Gated[num.Num]
    CallV Try.prog 23 #[r9.v, .int .i64 r10, r1.v, .int .i64 0] V138 fun v V139 => ∃ r157 : Bool, v = .bool r157 ∧ -- waveportlaw07.are
    (r157 = true →
    CallV Try.prog 23 #[r155.v, .int .i64 r156, r5.v, .int .i64 r6] V139 fun v V140 => ∃ r158 : Bool, v = .bool r158 ∧ -- waveportlaw07.are
    (r158 = true →
    CallV Try.prog 24 #[r5.v, r7.v] V140 fun v V141 => ∃ r159 : Sl, v = r159.v ∧ -- waveportlaw07.plus
    CallV Try.prog 23 #[r159.v, .int .i64 0, r1.v, .int .i64 0] V141 fun v V142 => ∃ r160 : Bool, v = .bool r160 ∧ -- waveportlaw07.are
    (r160 = true →
    CallV Try.prog 16 #[] V142 fun v V143 => ∃ r161 : Bool, v = .bool r161 ∧ -- waveportlaw07.awake
    R (.bool r161) V143) ∧
    (r160 = false →
    R (.bool false) V142)) ∧
    (r158 = false →
    (false = true →
    CallV Try.prog 16 #[] V140 fun v V144 => ∃ r162 : Bool, v = .bool r162 ∧ -- waveportlaw07.awake
    R (.bool r162) V144) ∧
    (false = false →
    R (.bool false) V140))) ∧
    (r157 = false →
    (false = true →
    CallV Try.prog 24 #[r5.v, r7.v] V139 fun v V145 => ∃ r163 : Sl, v = r163.v ∧ -- waveportlaw07.plus
    CallV Try.prog 23 #[r163.v, .int .i64 0, r1.v, .int .i64 0] V145 fun v V146 => ∃ r164 : Bool, v = .bool r164 ∧ -- waveportlaw07.are
    (r164 = true →
    CallV Try.prog 16 #[] V146 fun v V147 => ∃ r165 : Bool, v = .bool r165 ∧ -- waveportlaw07.awake
    R (.bool r165) V147) ∧
    (r164 = false →
    R (.bool false) V146)) ∧
    (false = false →
    (false = true →
    CallV Try.prog 16 #[] V139 fun v V148 => ∃ r166 : Bool, v = .bool r166 ∧ -- waveportlaw07.awake
    R (.bool r166) V148) ∧
    (false = false →
    R (.bool false) V139))))) ∧
    (true = false →
    ((((r7.len : Int) : Int) != (r1.len : Int)) = true →
      R (.bool false) V5) ∧
    ((((r7.len : Int) : Int) != (r1.len : Int)) = false →
      CallV Try.prog 35 #[r5.v, r2.v, (GateV.mk (Int.tmod (IntKind.i64.wrap p2) (r1.len : Int)) (Int.tmod (IntKind.i64.wrap p3) (IntKind.i64.wrap ((r1.len : Int) + 1)))).val] V5 fun v V149 => ∃ (r167 : Sl) (r168 : Int), v = .tuple #[r167.v, .int .i64 r168] ∧ -- transform.Gated[num.Num]
    CallV Try.prog 23 #[r9.v, .int .i64 r10, r1.v, .int .i64 0] V149 fun v V150 => ∃ r169 : Bool, v = .bool r169 ∧ -- waveportlaw07.are
    (r169 = true →
    CallV Try.prog 23 #[r167.v, .int .i64 r168, r5.v, .int .i64 r6] V150 fun v V151 => ∃ r170 : Bool, v = .bool r170 ∧ -- waveportlaw07.are
    (r170 = true →
    CallV Try.prog 24 #[r5.v, r7.v] V151 fun v V152 => ∃ r171 : Sl, v = r171.v ∧ -- waveportlaw07.plus
    CallV Try.prog 23 #[r171.v, .int .i64 0, r1.v, .int .i64 0] V152 fun v V153 => ∃ r172 : Bool, v = .bool r172 ∧ -- waveportlaw07.are
    (r172 = true →
    CallV Try.prog 16 #[] V153 fun v V154 => ∃ r173 : Bool, v = .bool r173 ∧ -- waveportlaw07.awake
    R (.bool r173) V154) ∧
    (r172 = false →
    R (.bool false) V153)) ∧
    (r170 = false →
    (false = true →
    CallV Try.prog 16 #[] V151 fun v V155 => ∃ r174 : Bool, v = .bool r174 ∧ -- waveportlaw07.awake
    R (.bool r174) V155) ∧
    (false = false →
    R (.bool false) V151))) ∧
    (r169 = false →
    (false = true →
    CallV Try.prog 24 #[r5.v, r7.v] V150 fun v V156 => ∃ r175 : Sl, v = r175.v ∧ -- waveportlaw07.plus
    CallV Try.prog 23 #[r175.v, .int .i64 0, r1.v, .int .i64 0] V156 fun v V157 => ∃ r176 : Bool, v = .bool r176 ∧ -- waveportlaw07.are
    (r176 = true →
    CallV Try.prog 16 #[] V157 fun v V158 => ∃ r177 : Bool, v = .bool r177 ∧ -- waveportlaw07.awake
    R (.bool r177) V158) ∧
    (r176 = false →
    R (.bool false) V157)) ∧
    (false = false →
    (false = true →
    CallV Try.prog 16 #[] V150 fun v V159 => ∃ r178 : Bool, v = .bool r178 ∧ -- waveportlaw07.awake
    R (.bool r178) V159) ∧
    (false = false →
    R (.bool false) V150)))))) ∧
    (((r8 : Int) != 0) = false →
    ((((r5.len : Int) : Int) != (r1.len : Int)) = true →
    (true = true →
      R (.bool false) V5) ∧
    (true = false →
      CallV Try.prog 35 #[r5.v, r2.v, (GateV.mk (Int.tmod (IntKind.i64.wrap p2) (r1.len : Int)) (Int.tmod (IntKind.i64.wrap p3) (IntKind.i64.wrap ((r1.len : Int) + 1)))).val] V5 fun v V160 => ∃ (r179 : Sl) (r180 : Int), v = .tuple #[r179.v, .int .i64 r180] ∧ -- transform.Gated[num.Num]
    CallV Try.prog 23 #[r9.v, .int .i64 r10, r1.v, .int .i64 0] V160 fun v V161 => ∃ r181 : Bool, v = .bool r181 ∧ -- waveportlaw07.are
    (r181 = true →
    CallV Try.prog 23 #[r179.v, .int .i64 r180, r5.v, .int .i64 r6] V161 fun v V162 => ∃ r182 : Bool, v = .bool r182 ∧ -- waveportlaw07.are
    (r182 = true →
    CallV Try.prog 24 #[r5.v, r7.v] V162 fun v V163 => ∃ r183 : Sl, v = r183.v ∧ -- waveportlaw07.plus
    CallV Try.prog 23 #[r183.v, .int .i64 0, r1.v, .int .i64 0] V163 fun v V164 => ∃ r184 : Bool, v = .bool r184 ∧ -- waveportlaw07.are
    (r184 = true →
    CallV Try.prog 16 #[] V164 fun v V165 => ∃ r185 : Bool, v = .bool r185 ∧ -- waveportlaw07.awake
    R (.bool r185) V165) ∧
    (r184 = false →
    R (.bool false) V164)) ∧
    (r182 = false →
    (false = true →
    CallV Try.prog 16 #[] V162 fun v V166 => ∃ r186 : Bool, v = .bool r186 ∧ -- waveportlaw07.awake
    R (.bool r186) V166) ∧
    (false = false →
    R (.bool false) V162))) ∧
    (r181 = false →
    (false = true →
    CallV Try.prog 24 #[r5.v, r7.v] V161 fun v V167 => ∃ r187 : Sl, v = r187.v ∧ -- waveportlaw07.plus
    CallV Try.prog 23 #[r187.v, .int .i64 0, r1.v, .int .i64 0] V167 fun v V168 => ∃ r188 : Bool, v = .bool r188 ∧ -- waveportlaw07.are
    (r188 = true →
    CallV Try.prog 16 #[] V168 fun v V169 => ∃ r189 : Bool, v = .bool r189 ∧ -- waveportlaw07.awake
    R (.bool r189) V169) ∧
    (r188 = false →
    R (.bool false) V168)) ∧
    (false = false →
    (false = true →
    CallV Try.prog 16 #[] V161 fun v V170 => ∃ r190 : Bool, v = .bool r190 ∧ -- waveportlaw07.awake
    R (.bool r190) V170) ∧
    (false = false →
    R (.bool false) V161))))) ∧
    ((((r5.len : Int) : Int) != (r1.len : Int)) = false →
    ((((r7.len : Int) : Int) != (r1.len : Int)) = true →
      R (.bool false) V5) ∧
    ((((r7.len : Int) : Int) != (r1.len : Int)) = false →
      CallV Try.prog 35 #[r5.v, r2.v, (GateV.mk (Int.tmod (IntKind.i64.wrap p2) (r1.len : Int)) (Int.tmod (IntKind.i64.wrap p3) (IntKind.i64.wrap ((r1.len : Int) + 1)))).val] V5 fun v V171 => ∃ (r191 : Sl) (r192 : Int), v = .tuple #[r191.v, .int .i64 r192] ∧ -- transform.Gated[num.Num]
    CallV Try.prog 23 #[r9.v, .int .i64 r10, r1.v, .int .i64 0] V171 fun v V172 => ∃ r193 : Bool, v = .bool r193 ∧ -- waveportlaw07.are
    (r193 = true →
    CallV Try.prog 23 #[r191.v, .int .i64 r192, r5.v, .int .i64 r6] V172 fun v V173 => ∃ r194 : Bool, v = .bool r194 ∧ -- waveportlaw07.are
    (r194 = true →
    CallV Try.prog 24 #[r5.v, r7.v] V173 fun v V174 => ∃ r195 : Sl, v = r195.v ∧ -- waveportlaw07.plus
    CallV Try.prog 23 #[r195.v, .int .i64 0, r1.v, .int .i64 0] V174 fun v V175 => ∃ r196 : Bool, v = .bool r196 ∧ -- waveportlaw07.are
    (r196 = true →
    CallV Try.prog 16 #[] V175 fun v V176 => ∃ r197 : Bool, v = .bool r197 ∧ -- waveportlaw07.awake
    R (.bool r197) V176) ∧
    (r196 = false →
    R (.bool false) V175)) ∧
    (r194 = false →
    (false = true →
    CallV Try.prog 16 #[] V173 fun v V177 => ∃ r198 : Bool, v = .bool r198 ∧ -- waveportlaw07.awake
    R (.bool r198) V177) ∧
    (false = false →
    R (.bool false) V173))) ∧
    (r193 = false →
    (false = true →
    CallV Try.prog 24 #[r5.v, r7.v] V172 fun v V178 => ∃ r199 : Sl, v = r199.v ∧ -- waveportlaw07.plus
    CallV Try.prog 23 #[r199.v, .int .i64 0, r1.v, .int .i64 0] V178 fun v V179 => ∃ r200 : Bool, v = .bool r200 ∧ -- waveportlaw07.are
    (r200 = true →
    CallV Try.prog 16 #[] V179 fun v V180 => ∃ r201 : Bool, v = .bool r201 ∧ -- waveportlaw07.awake
    R (.bool r201) V180) ∧
    (r200 = false →
    R (.bool false) V179)) ∧
    (false = false →
    (false = true →
    CallV Try.prog 16 #[] V172 fun v V181 => ∃ r202 : Bool, v = .bool r202 ∧ -- waveportlaw07.awake
    R (.bool r202) V181) ∧
    (false = false →
    R (.bool false) V172))))))))) :
  CallV Try.prog 8 #[p0.v, .int .u8 p1, .int .u8 p2, .int .u8 p3] V R :=
  calls_of_vc (Shp := Shp) hmixed Try.func8 (c := Try.f8.body.getD .skip) (args := [p0.v, .int .u8 p1, .int .u8 p2, .int .u8 p3]) (by kernel_rfl)
    (.seq (.reg [⟨8, 2, false⟩]) (.seq (.reg [⟨24, 2, false⟩, ⟨25, 2, false⟩, ⟨26, 10, false⟩, ⟨23, 2, false⟩, ⟨27, 0, false⟩, ⟨28, 0, false⟩, ⟨9, 2, false⟩, ⟨10, 2, false⟩]) (.seq (.reg [⟨29, 2, false⟩, ⟨30, 0, false⟩, ⟨11, 2, false⟩]) (.seq (.draw [(0, ⟨31, 2, false⟩), (1, ⟨32, 0, false⟩), (2, ⟨33, 2, false⟩), (3, ⟨34, 12, false⟩), (4, ⟨35, 2, false⟩), (5, ⟨36, 0, false⟩), (6, ⟨37, 2, false⟩), (7, ⟨38, 0, false⟩), (8, ⟨39, 12, false⟩), (9, ⟨40, 0, false⟩), (10, ⟨12, 3, false⟩), (11, ⟨12, 6, false⟩)] [0, 1, 0, 7, 0, 16, 0, 64, 240, 511, 0, 2047]) (.seq (.reg [⟨12, 4, false⟩, ⟨43, 2, false⟩, ⟨44, 10, false⟩, ⟨41, 2, false⟩, ⟨45, 0, false⟩, ⟨46, 0, false⟩, ⟨13, 3, false⟩, ⟨13, 6, false⟩, ⟨14, 2, false⟩]) (.seq (.reg [⟨48, 2, false⟩, ⟨49, 2, false⟩, ⟨12, 4, false⟩, ⟨51, 10, false⟩, ⟨47, 2, false⟩, ⟨52, 0, false⟩, ⟨53, 0, false⟩, ⟨15, 2, false⟩, ⟨16, 2, false⟩]) (.seq (.reg [⟨55, 2, false⟩, ⟨56, 2, false⟩, ⟨13, 4, false⟩, ⟨58, 10, false⟩, ⟨54, 2, false⟩, ⟨59, 0, false⟩, ⟨60, 0, false⟩, ⟨17, 2, false⟩, ⟨18, 2, false⟩]) (.seq (.reg [⟨62, 2, false⟩, ⟨63, 2, false⟩, ⟨64, 2, false⟩, ⟨65, 0, false⟩, ⟨66, 10, false⟩, ⟨61, 2, false⟩, ⟨67, 0, false⟩, ⟨68, 0, false⟩, ⟨19, 2, false⟩, ⟨20, 2, false⟩]) (.seq (.seq (.reg [⟨69, 2, false⟩, ⟨70, 0, false⟩, ⟨71, 2, true⟩, ⟨72, 2, false⟩, ⟨73, 0, false⟩, ⟨74, 2, false⟩, ⟨75, 2, true⟩, ⟨76, 2, false⟩, ⟨77, 0, false⟩, ⟨78, 2, false⟩, ⟨79, 2, true⟩, ⟨80, 2, false⟩, ⟨81, 0, false⟩, ⟨82, 2, false⟩, ⟨83, 0, false⟩, ⟨84, 2, false⟩, ⟨85, 2, true⟩, ⟨86, 2, false⟩, ⟨87, 0, false⟩, ⟨88, 2, false⟩, ⟨89, 0, false⟩, ⟨90, 2, false⟩]) (.cond (.seq (.reg [⟨8, 2, false⟩]) .leaf) .leaf)) (.seq (.reg [⟨92, 2, false⟩, ⟨93, 2, false⟩, ⟨12, 4, false⟩, ⟨95, 10, false⟩, ⟨91, 2, false⟩, ⟨96, 0, false⟩, ⟨97, 0, false⟩, ⟨21, 2, false⟩, ⟨22, 2, false⟩]) (.seq (.reg [⟨98, 2, false⟩, ⟨99, 2, false⟩, ⟨100, 2, false⟩, ⟨101, 10, false⟩, ⟨102, 2, true⟩, ⟨103, 2, false⟩, ⟨104, 2, false⟩, ⟨105, 2, false⟩, ⟨106, 2, false⟩, ⟨107, 10, false⟩, ⟨108, 2, false⟩, ⟨109, 2, true⟩, ⟨110, 2, false⟩, ⟨111, 2, false⟩, ⟨112, 10, false⟩, ⟨113, 2, false⟩, ⟨114, 10, false⟩, ⟨115, 2, false⟩, ⟨116, 2, true⟩, ⟨117, 10, false⟩, ⟨118, 2, false⟩, ⟨8, 2, false⟩]) .leaf)))))))))))
    (Eq.mpr (by kernel_rfl) h)

end Go.Proofs.Ytnbjnokgmeamdaa
