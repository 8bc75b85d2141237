/- Part of the proof; it has the parts FFor. -/
import Derived.Test.YtcapadojlaojkaaGreatFText
set_option maxRecDepth 100000
set_option maxHeartbeats 4000000
namespace Go.Proofs.YtcapadojlaojkaaGreat
open Go Go.Vc Go.Proofs

/-- waveport/waveportlaw07.small -/
theorem waveportlaw07_small_vc (p0 : RatV) (V : View) (R : Value → View → Prop) 
  (h :
    ((decide (((Int.tmod p0.den 6) : Int) < 0)) = true →
      R ((RatV.mk (Int.tmod p0.re 21) (Int.tmod p0.im 21) (IntKind.i64.wrap ((IntKind.i64.wrap (0 - (Int.tmod p0.den 6))) + 1))).val) V) ∧
    ((decide (((Int.tmod p0.den 6) : Int) < 0)) = false →
      R ((RatV.mk (Int.tmod p0.re 21) (Int.tmod p0.im 21) (IntKind.i64.wrap ((Int.tmod p0.den 6) + 1))).val) V)) :
  CallV Tryz.prog 105 #[p0.val] V R :=
  calls_of_vc (Shp := Shp) hmixed Tryz.func105 (c := Tryz.f105.body.getD .skip) (args := [p0.val]) (by kernel_rfl)
    (.seq (.reg [⟨1, 3, false⟩, ⟨2, 3, false⟩]) (.seq (.reg [⟨4, 7, false⟩, ⟨1, 4, false⟩, ⟨6, 0, false⟩, ⟨3, 2, false⟩]) (.seq (.seq (.reg [⟨7, 2, false⟩, ⟨8, 0, false⟩]) (.cond (.reg [⟨9, 2, false⟩, ⟨10, 0, false⟩, ⟨3, 2, false⟩]) .leaf)) (.seq (.reg [⟨11, 7, false⟩, ⟨1, 4, false⟩, ⟨13, 0, false⟩, ⟨14, 7, false⟩, ⟨1, 4, false⟩, ⟨16, 0, false⟩, ⟨17, 2, false⟩, ⟨18, 0, false⟩, ⟨19, 0, false⟩, ⟨2, 6, false⟩]) .leaf))))
    (Eq.mpr (by kernel_rfl) h)

structure L_transform_conjugates_num_Num__0 where
  t10 : Int
  o7 : List Value
/-- waveport/transform.conjugates[waveport/num.Num] -/
theorem transform_conjugates_num_Num__vc (p0 : Sl) (V : View) (R : Value → View → Prop) (I_transform_conjugates_num_Num__0 : Unit → L_transform_conjugates_num_Num__0 → View → Prop) (mu_transform_conjugates_num_Num__0 : Unit → L_transform_conjugates_num_Num__0 → View → Nat)
  (h :
    ((0 : Int) ≤ (p0.len : Int) ∧ ((p0.len : Int) : Int) ≤ (p0.len : Int) ∧ (88 : Int) * (p0.len : Int) ≤ 281474976710656 ∧ ((p0.len : Int) : Int) ≤ 9223372036854775807) ∧
    I_transform_conjugates_num_Num__0 () (L_transform_conjugates_num_Num__0.mk 0 ((List.replicate (Int.toNat (p0.len : Int)) [Value.bool false, Value.slice none 0 0, Value.bool false, Value.slice none 0 0, Value.slice none 0 0]).flatten)) V ∧
    (∀ (x2 : L_transform_conjugates_num_Num__0) (V1 : View), View.le V V1 → I_transform_conjugates_num_Num__0 () x2 V1 →
      ((decide ((x2.t10 : Int) < (p0.len : Int))) = true →
        ((0 : Int) ≤ x2.t10 ∧ (x2.t10 : Int) < (p0.len : Nat) ∧ Option.isSome p0.a = true) ∧
      ∃ x3 : NumV, View.has V1 (Option.map (fun q => Addr.add q (Int.toNat x2.t10 * 5)) p0.a) (x3.val).cells.toList ∧ Option.isSome (Option.map (fun q => Addr.add q (Int.toNat x2.t10 * 5)) p0.a) = true ∧
      CallV Tryz.prog 281 #[x3.val] V1 fun v V2 => ∃ r1 : NumV, v = r1.val ∧ -- (num.Num).Conj
      ((0 : Int) ≤ x2.t10 ∧ (x2.t10 : Int) < (Int.toNat (p0.len : Int) : Nat)) ∧
      0 + Int.toNat x2.t10 * 5 + 5 ≤ List.length x2.o7 ∧
      I_transform_conjugates_num_Num__0 () (L_transform_conjugates_num_Num__0.mk (IntKind.i64.wrap (x2.t10 + 1)) (setL x2.o7 (0 + Int.toNat x2.t10 * 5) [.bool r1.re.neg, r1.re.mag.v, .bool r1.im.neg, r1.im.mag.v, r1.under.v])) V2 ∧ mu_transform_conjugates_num_Num__0 () (L_transform_conjugates_num_Num__0.mk (IntKind.i64.wrap (x2.t10 + 1)) (setL x2.o7 (0 + Int.toNat x2.t10 * 5) [.bool r1.re.neg, r1.re.mag.v, .bool r1.im.neg, r1.im.mag.v, r1.under.v])) V2 < mu_transform_conjugates_num_Num__0 () x2 V1) ∧
      ((decide ((x2.t10 : Int) < (p0.len : Int))) = false →
        ∀ (b1 : Nat) (V3 : View), View.le V1 V3 → V3 b1 = some (List.toArray x2.o7) →
    R ((Sl.mk (some (Addr.mk b1 0 none)) (Int.toNat (p0.len : Int)) (Int.toNat (p0.len : Int))).v) V3))) :
  CallV Tryz.prog 111 #[p0.v] V R :=
  calls_of_vc (Shp := Shp) hmixed Tryz.func111 (c := Tryz.f111.body.getD .skip) (args := [p0.v]) (by kernel_rfl)
    (.seq (.reg [⟨2, 2, false⟩]) (.seq (.reg [⟨5, 2, false⟩, ⟨6, 0, false⟩, ⟨7, 3, false⟩, ⟨3, 2, false⟩]) (.seq (.seq (.reg [⟨8, 2, false⟩, ⟨9, 0, false⟩, ⟨10, 2, false⟩]) (.block (.loop Unit L_transform_conjugates_num_Num__0 (fun _ => ()) (fun c x => { tm := spT 24 0 [(0, .val (p0.v)), (3, .osl 7 0 (Int.toNat (p0.len : Int)) (Int.toNat (p0.len : Int))), (9, .val (.int .i64 (p0.len : Int))), (10, .val (.int .i64 x.t10))], own := spO 24 0 [(7, ⟨68, .dyn x.o7⟩)] }) I_transform_conjugates_num_Num__0 mu_transform_conjugates_num_Num__0 (.seq (.reg [⟨11, 0, false⟩]) (.seq (.cond .leaf .leaf) (.seq (.block (.seq (.reg [⟨12, 2, false⟩, ⟨4, 2, false⟩]) (.reg [⟨13, 2, false⟩, ⟨14, 2, false⟩, ⟨15, 2, false⟩, ⟨16, 2, false⟩, ⟨17, 7, false⟩, ⟨18, 5, false⟩, ⟨19, 0, false⟩, ⟨20, 10, false⟩, ⟨21, 7, false⟩, ⟨7, 6, false⟩]))) (.reg [⟨22, 0, false⟩, ⟨10, 2, false⟩]))))))) (.seq (.reg [⟨23, 2, false⟩, ⟨2, 2, false⟩]) (.pub 7 .leaf)))))
    (Eq.mpr (by kernel_rfl) (show ((0 : Int) ≤ (p0.len : Int) ∧ ((p0.len : Int) : Int) ≤ (p0.len : Int) ∧ (88 : Int) * (p0.len : Int) ≤ 281474976710656 ∧ ((p0.len : Int) : Int) ≤ 9223372036854775807) ∧
    (∃ x1 : L_transform_conjugates_num_Num__0, ((SV.val (p0.v) = SV.val (p0.v) ∧ SV.osl 7 0 (Int.toNat (p0.len : Int)) (Int.toNat (p0.len : Int)) = SV.osl 7 0 (Int.toNat (p0.len : Int)) (Int.toNat (p0.len : Int)) ∧ SV.val (.int .i64 (p0.len : Int)) = SV.val (.int .i64 (p0.len : Int)) ∧ SV.val (.int .i64 0) = SV.val (.int .i64 x1.t10) ∧ True) ∧ ((some (⟨68, .dyn ((List.replicate (Int.toNat (p0.len : Int)) [Value.bool false, Value.slice none 0 0, Value.bool false, Value.slice none 0 0, Value.slice none 0 0]).flatten)⟩) : Option OB) = some (⟨68, .dyn x1.o7⟩) ∧ True)) ∧ I_transform_conjugates_num_Num__0 () x1 V) ∧
    (∀ (x2 : L_transform_conjugates_num_Num__0) (V1 : View), View.le V V1 → I_transform_conjugates_num_Num__0 () x2 V1 →
      ((decide ((x2.t10 : Int) < (p0.len : Int))) = true →
        ((0 : Int) ≤ x2.t10 ∧ (x2.t10 : Int) < (p0.len : Nat) ∧ Option.isSome p0.a = true) ∧
      ∃ x3 : NumV, View.has V1 (Option.map (fun q => Addr.add q (Int.toNat x2.t10 * 5)) p0.a) (x3.val).cells.toList ∧ Option.isSome (Option.map (fun q => Addr.add q (Int.toNat x2.t10 * 5)) p0.a) = true ∧
      CallV Tryz.prog 281 #[x3.val] V1 fun v V2 => ∃ r1 : NumV, v = r1.val ∧ -- (num.Num).Conj
      ((0 : Int) ≤ x2.t10 ∧ (x2.t10 : Int) < (Int.toNat (p0.len : Int) : Nat)) ∧
      0 + Int.toNat x2.t10 * 5 + 5 ≤ List.length x2.o7 ∧
      ∃ x4 : L_transform_conjugates_num_Num__0, ((SV.val (p0.v) = SV.val (p0.v) ∧ SV.osl 7 0 (Int.toNat (p0.len : Int)) (Int.toNat (p0.len : Int)) = SV.osl 7 0 (Int.toNat (p0.len : Int)) (Int.toNat (p0.len : Int)) ∧ SV.val (.int .i64 (p0.len : Int)) = SV.val (.int .i64 (p0.len : Int)) ∧ SV.val (.int .i64 (IntKind.i64.wrap (x2.t10 + 1))) = SV.val (.int .i64 x4.t10) ∧ True) ∧ ((some (⟨68, .dyn (setL x2.o7 (0 + Int.toNat x2.t10 * 5) [.bool r1.re.neg, r1.re.mag.v, .bool r1.im.neg, r1.im.mag.v, r1.under.v])⟩) : Option OB) = some (⟨68, .dyn x4.o7⟩) ∧ True)) ∧ I_transform_conjugates_num_Num__0 () x4 V2 ∧ mu_transform_conjugates_num_Num__0 () x4 V2 < mu_transform_conjugates_num_Num__0 () x2 V1) ∧
      ((decide ((x2.t10 : Int) < (p0.len : Int))) = false →
        ∀ (b1 : Nat) (V3 : View), View.le V1 V3 → V3 b1 = some (List.toArray x2.o7) →
    R ((Sl.mk (some (Addr.mk b1 0 none)) (Int.toNat (p0.len : Int)) (Int.toNat (p0.len : Int))).v) V3)) from ⟨h.1, ⟨⟨(L_transform_conjugates_num_Num__0.mk 0 ((List.replicate (Int.toNat (p0.len : Int)) [Value.bool false, Value.slice none 0 0, Value.bool false, Value.slice none 0 0, Value.slice none 0 0]).flatten)), ⟨⟨rfl, rfl, rfl, rfl, trivial⟩, ⟨rfl, trivial⟩⟩, h.2.1⟩, fun x2 V1 h9 h10 => ⟨fun h8 => ⟨((h.2.2 x2 V1 h9 h10).1 h8).1, (match ((h.2.2 x2 V1 h9 h10).1 h8).2 with | ⟨x3, h4, h5, h3⟩ => ⟨x3, h4, h5, (CallV.mono h3 (fun _ _ _ ⟨r1, h2, h1⟩ => ⟨r1, h2, ⟨h1.1, ⟨h1.2.1, ⟨(L_transform_conjugates_num_Num__0.mk (IntKind.i64.wrap (x2.t10 + 1)) (setL x2.o7 (0 + Int.toNat x2.t10 * 5) [.bool r1.re.neg, r1.re.mag.v, .bool r1.im.neg, r1.im.mag.v, r1.under.v])), ⟨⟨rfl, rfl, rfl, rfl, trivial⟩, ⟨rfl, trivial⟩⟩, h1.2.2.1, h1.2.2.2⟩⟩⟩⟩))⟩)⟩, fun h8 => (fun b1 V3 h6 h7 => (((h.2.2 x2 V1 h9 h10).2 h8) b1 V3 h6 h7))⟩⟩⟩))

/-- waveport/transform.of[waveport/num.Num] -/
theorem transform_of_num_Num__vc (p0 : Int) (p1 : Int) (V : View) (R : Value → View → Prop) 
  (h :
    CallV Tryz.prog 88 #[.int .i64 p0, .int .i64 0, .int .i64 p1] V fun v V1 => ∃ (r1 : NumV) (r2 : Int), v = .tuple #[r1.val, .int .i64 r2] ∧ -- num.New
    CallV Tryz.prog 282 #[(NumV.mk (WhV.mk false (Sl.mk none 0 0)) (WhV.mk false (Sl.mk none 0 0)) (Sl.mk none 0 0)).val, r1.val] V1 fun v V2 => ∃ r3 : NumV, v = r3.val ∧ -- (num.Num).Of
    R (r3.val) V2) :
  CallV Tryz.prog 119 #[.int .i64 p0, .int .i64 p1] V R :=
  calls_of_vc (Shp := Shp) hmixed Tryz.func119 (c := Tryz.f119.body.getD .skip) (args := [.int .i64 p0, .int .i64 p1]) (by kernel_rfl)
    (.seq (.reg [⟨4, 3, false⟩]) (.seq (.reg [⟨5, 3, false⟩]) (.seq (.reg [⟨9, 2, false⟩, ⟨10, 2, false⟩, ⟨11, 10, false⟩, ⟨8, 2, false⟩, ⟨12, 0, false⟩, ⟨13, 0, false⟩, ⟨6, 3, false⟩, ⟨6, 6, false⟩, ⟨7, 2, false⟩]) (.seq (.reg [⟨5, 4, false⟩, ⟨15, 0, false⟩, ⟨6, 4, false⟩, ⟨17, 10, false⟩, ⟨4, 6, false⟩]) .leaf))))
    (Eq.mpr (by kernel_rfl) h)

structure L_transform_shares_num_Num__0 where
  t10 : Int
  o0 : List Value
structure C_transform_shares_num_Num__0 where
  o3_0 : Bool
  o3_1 : Sl
  o3_2 : Bool
  o3_3 : Sl
  o3_4 : Sl
/-- waveport/transform.shares[waveport/num.Num] -/
theorem transform_shares_num_Num__vc (p0o p0l p0c : Nat) (p0w : List Value)  (V : View) (R : List Value → View → Prop) (I_transform_shares_num_Num__0 : C_transform_shares_num_Num__0 → L_transform_shares_num_Num__0 → View → Prop) (mu_transform_shares_num_Num__0 : C_transform_shares_num_Num__0 → L_transform_shares_num_Num__0 → View → Nat)
  (h :
    CallV Tryz.prog 119 #[.int .i64 1, .int .i64 ((p0l : Nat) : Int)] V fun v V1 => ∃ r1 : NumV, v = r1.val ∧ -- transform.of[num.Num]
    I_transform_shares_num_Num__0 (C_transform_shares_num_Num__0.mk r1.re.neg r1.re.mag r1.im.neg r1.im.mag r1.under) (L_transform_shares_num_Num__0.mk 0 p0w) V1 ∧
    (∀ (x2 : L_transform_shares_num_Num__0) (V2 : View), View.le V1 V2 → I_transform_shares_num_Num__0 (C_transform_shares_num_Num__0.mk r1.re.neg r1.re.mag r1.im.neg r1.im.mag r1.under) x2 V2 →
      ((decide ((x2.t10 : Int) < ((p0l : Nat) : Int))) = true →
        ((0 : Int) ≤ x2.t10 ∧ (x2.t10 : Int) < (p0l : Nat)) ∧
      ∃ x3 : NumV, List.take 5 (List.drop (p0o + Int.toNat x2.t10 * 5) x2.o0) = (x3.val).cells.toList ∧
      CallV Tryz.prog 141 #[x3.val, r1.val] V2 fun v V3 => ∃ r2 : NumV, v = r2.val ∧ -- (num.Num).Mul
      ((0 : Int) ≤ x2.t10 ∧ (x2.t10 : Int) < (p0l : Nat)) ∧
      p0o + Int.toNat x2.t10 * 5 + 5 ≤ List.length x2.o0 ∧
      I_transform_shares_num_Num__0 (C_transform_shares_num_Num__0.mk r1.re.neg r1.re.mag r1.im.neg r1.im.mag r1.under) (L_transform_shares_num_Num__0.mk (IntKind.i64.wrap (x2.t10 + 1)) (setL x2.o0 (p0o + Int.toNat x2.t10 * 5) [.bool r2.re.neg, r2.re.mag.v, .bool r2.im.neg, r2.im.mag.v, r2.under.v])) V3 ∧ mu_transform_shares_num_Num__0 (C_transform_shares_num_Num__0.mk r1.re.neg r1.re.mag r1.im.neg r1.im.mag r1.under) (L_transform_shares_num_Num__0.mk (IntKind.i64.wrap (x2.t10 + 1)) (setL x2.o0 (p0o + Int.toNat x2.t10 * 5) [.bool r2.re.neg, r2.re.mag.v, .bool r2.im.neg, r2.im.mag.v, r2.under.v])) V3 < mu_transform_shares_num_Num__0 (C_transform_shares_num_Num__0.mk r1.re.neg r1.re.mag r1.im.neg r1.im.mag r1.under) x2 V2) ∧
      ((decide ((x2.t10 : Int) < ((p0l : Nat) : Int))) = false →
        (p0o = p0o ∧ p0l = p0l ∧ p0c = p0c) ∧ R x2.o0 V2))) :
  CallDS Tryz.prog 112 (fun b => (Value.slice (some ⟨b, p0o, none⟩) p0l p0c :: [] : List Value)) 68 p0w V R :=
  calls_of_vcDS (Shp := Shp) (l := p0w) (off := p0o) (len := p0l) (cap := p0c) hmixed Tryz.func112 (c := Tryz.f112.body.getD .skip) (args := []) (by kernel_rfl)
    (.seq (.reg [⟨2, 2, false⟩]) (.seq (.reg [⟨5, 2, false⟩, ⟨6, 7, false⟩, ⟨7, 10, false⟩, ⟨3, 3, false⟩, ⟨3, 6, false⟩]) (.seq (.seq (.reg [⟨8, 2, false⟩, ⟨9, 7, false⟩, ⟨10, 2, false⟩]) (.block (.loop C_transform_shares_num_Num__0 L_transform_shares_num_Num__0 (fun σ => C_transform_shares_num_Num__0.mk (gBool (gOwn σ 3 0)) (Sl.mk (gSlA (gOwn σ 3 1)) (gSlL (gOwn σ 3 1)) (gSlC (gOwn σ 3 1))) (gBool (gOwn σ 3 2)) (Sl.mk (gSlA (gOwn σ 3 3)) (gSlL (gOwn σ 3 3)) (gSlC (gOwn σ 3 3))) (Sl.mk (gSlA (gOwn σ 3 4)) (gSlL (gOwn σ 3 4)) (gSlC (gOwn σ 3 4)))) (fun c x => { tm := spT 25 0 [(0, .osl 0 p0o p0l p0c), (3, .own 3 0), (9, .val (.int .i64 ((p0l : Nat) : Int))), (10, .val (.int .i64 x.t10))], own := spO 25 0 [(0, ⟨68, .dyn x.o0⟩), (3, ⟨68, .fixed [.val (.bool c.o3_0), .val (c.o3_1.v), .val (.bool c.o3_2), .val (c.o3_3.v), .val (c.o3_4.v)]⟩)] }) I_transform_shares_num_Num__0 mu_transform_shares_num_Num__0 (.seq (.reg [⟨11, 0, false⟩]) (.seq (.cond .leaf .leaf) (.seq (.block (.seq (.reg [⟨12, 2, false⟩, ⟨4, 2, false⟩]) (.draw [(0, ⟨13, 2, false⟩), (1, ⟨14, 2, false⟩), (2, ⟨15, 2, false⟩), (3, ⟨16, 2, false⟩), (4, ⟨17, 7, false⟩), (5, ⟨0, 4, false⟩), (6, ⟨19, 0, false⟩), (7, ⟨3, 4, false⟩), (8, ⟨21, 10, false⟩), (9, ⟨22, 7, false⟩), (10, ⟨0, 6, false⟩)] [0, 0, 0, 0, 12, 28, 60, 0, 252, 511, 1023]))) (.reg [⟨23, 0, false⟩, ⟨10, 2, false⟩]))))))) (.seq (.reg [⟨24, 2, false⟩, ⟨2, 2, false⟩]) .leaf))))
    (Eq.mpr (by kernel_rfl) (show CallV Tryz.prog 119 #[.int .i64 1, .int .i64 ((p0l : Nat) : Int)] V fun v V1 => ∃ r1 : NumV, v = r1.val ∧ -- transform.of[num.Num]
    (∃ x1 : L_transform_shares_num_Num__0, ((SV.osl 0 p0o p0l p0c = SV.osl 0 p0o p0l p0c ∧ SV.own 3 0 = SV.own 3 0 ∧ SV.val (.int .i64 ((p0l : Nat) : Int)) = SV.val (.int .i64 ((p0l : Nat) : Int)) ∧ SV.val (.int .i64 0) = SV.val (.int .i64 x1.t10) ∧ True) ∧ ((some (⟨68, .dyn p0w⟩) : Option OB) = some (⟨68, .dyn x1.o0⟩) ∧ (some (⟨68, .fixed [.val (.bool r1.re.neg), .val (r1.re.mag.v), .val (.bool r1.im.neg), .val (r1.im.mag.v), .val (r1.under.v)]⟩) : Option OB) = some (⟨68, .fixed [.val (.bool r1.re.neg), .val (r1.re.mag.v), .val (.bool r1.im.neg), .val (r1.im.mag.v), .val (r1.under.v)]⟩) ∧ True)) ∧ I_transform_shares_num_Num__0 (C_transform_shares_num_Num__0.mk r1.re.neg r1.re.mag r1.im.neg r1.im.mag r1.under) x1 V1) ∧
    (∀ (x2 : L_transform_shares_num_Num__0) (V2 : View), View.le V1 V2 → I_transform_shares_num_Num__0 (C_transform_shares_num_Num__0.mk r1.re.neg r1.re.mag r1.im.neg r1.im.mag r1.under) x2 V2 →
      ((decide ((x2.t10 : Int) < ((p0l : Nat) : Int))) = true →
        ((0 : Int) ≤ x2.t10 ∧ (x2.t10 : Int) < (p0l : Nat)) ∧
      ∃ x3 : NumV, List.take 5 (List.drop (p0o + Int.toNat x2.t10 * 5) x2.o0) = (x3.val).cells.toList ∧
      CallV Tryz.prog 141 #[x3.val, r1.val] V2 fun v V3 => ∃ r2 : NumV, v = r2.val ∧ -- (num.Num).Mul
      ((0 : Int) ≤ x2.t10 ∧ (x2.t10 : Int) < (p0l : Nat)) ∧
      p0o + Int.toNat x2.t10 * 5 + 5 ≤ List.length x2.o0 ∧
      ∃ x4 : L_transform_shares_num_Num__0, ((SV.osl 0 p0o p0l p0c = SV.osl 0 p0o p0l p0c ∧ SV.own 3 0 = SV.own 3 0 ∧ SV.val (.int .i64 ((p0l : Nat) : Int)) = SV.val (.int .i64 ((p0l : Nat) : Int)) ∧ SV.val (.int .i64 (IntKind.i64.wrap (x2.t10 + 1))) = SV.val (.int .i64 x4.t10) ∧ True) ∧ ((some (⟨68, .dyn (setL x2.o0 (p0o + Int.toNat x2.t10 * 5) [.bool r2.re.neg, r2.re.mag.v, .bool r2.im.neg, r2.im.mag.v, r2.under.v])⟩) : Option OB) = some (⟨68, .dyn x4.o0⟩) ∧ (some (⟨68, .fixed [.val (.bool r1.re.neg), .val (r1.re.mag.v), .val (.bool r1.im.neg), .val (r1.im.mag.v), .val (r1.under.v)]⟩) : Option OB) = some (⟨68, .fixed [.val (.bool r1.re.neg), .val (r1.re.mag.v), .val (.bool r1.im.neg), .val (r1.im.mag.v), .val (r1.under.v)]⟩) ∧ True)) ∧ I_transform_shares_num_Num__0 (C_transform_shares_num_Num__0.mk r1.re.neg r1.re.mag r1.im.neg r1.im.mag r1.under) x4 V3 ∧ mu_transform_shares_num_Num__0 (C_transform_shares_num_Num__0.mk r1.re.neg r1.re.mag r1.im.neg r1.im.mag r1.under) x4 V3 < mu_transform_shares_num_Num__0 (C_transform_shares_num_Num__0.mk r1.re.neg r1.re.mag r1.im.neg r1.im.mag r1.under) x2 V2) ∧
      ((decide ((x2.t10 : Int) < ((p0l : Nat) : Int))) = false →
        (p0o = p0o ∧ p0l = p0l ∧ p0c = p0c) ∧ R x2.o0 V2)) from (CallV.mono h (fun _ _ _ ⟨r1, h9, h8⟩ => ⟨r1, h9, ⟨⟨(L_transform_shares_num_Num__0.mk 0 p0w), ⟨⟨rfl, rfl, rfl, rfl, trivial⟩, ⟨rfl, rfl, trivial⟩⟩, h8.1⟩, fun x2 V2 h6 h7 => ⟨fun h5 => ⟨((h8.2 x2 V2 h6 h7).1 h5).1, (match ((h8.2 x2 V2 h6 h7).1 h5).2 with | ⟨x3, h4, h3⟩ => ⟨x3, h4, (CallV.mono h3 (fun _ _ _ ⟨r2, h2, h1⟩ => ⟨r2, h2, ⟨h1.1, ⟨h1.2.1, ⟨(L_transform_shares_num_Num__0.mk (IntKind.i64.wrap (x2.t10 + 1)) (setL x2.o0 (p0o + Int.toNat x2.t10 * 5) [.bool r2.re.neg, r2.re.mag.v, .bool r2.im.neg, r2.im.mag.v, r2.under.v])), ⟨⟨rfl, rfl, rfl, rfl, trivial⟩, ⟨rfl, rfl, trivial⟩⟩, h1.2.2.1, h1.2.2.2⟩⟩⟩⟩))⟩)⟩, fun h5 => ((h8.2 x2 V2 h6 h7).2 h5)⟩⟩⟩))))

structure L_transform_Forward_num_Num__0 where
  t21 : Int
  o18 : List Value
structure L_transform_Forward_num_Num__1 where
  t10 : Int
  o9 : NumV
  o18 : List Value
structure C_transform_Forward_num_Num__1 where
  t8 : Int
  t21 : Int
/-- waveport/transform.Forward[waveport/num.Num] -/
theorem transform_Forward_num_Num__vc (p0 : Sl) (p1 : Sl) (V : View) (R : Nat → Nat → List Value → List Value → View → Prop) (I_transform_Forward_num_Num__0 : Unit → L_transform_Forward_num_Num__0 → View → Prop) (mu_transform_Forward_num_Num__0 : Unit → L_transform_Forward_num_Num__0 → View → Nat) (I_transform_Forward_num_Num__1 : C_transform_Forward_num_Num__1 → L_transform_Forward_num_Num__1 → View → Prop) (mu_transform_Forward_num_Num__1 : C_transform_Forward_num_Num__1 → L_transform_Forward_num_Num__1 → View → Nat)
  (h :
    CallV Tryz.prog 107 #[p0.v, p1.v] V fun v V1 => ∃ r1 : Bool, v = .bool r1 ∧ -- transform.fits[num.Num]
    ((!r1) = true →
      R 0 0 [] [Value.int .i64 4] V1) ∧
    ((!r1) = false →
      ((0 : Int) ≤ (p0.len : Int) ∧ ((p0.len : Int) : Int) ≤ (p0.len : Int) ∧ (88 : Int) * (p0.len : Int) ≤ 281474976710656 ∧ ((p0.len : Int) : Int) ≤ 9223372036854775807) ∧
    I_transform_Forward_num_Num__0 () (L_transform_Forward_num_Num__0.mk 0 ((List.replicate (Int.toNat (p0.len : Int)) [Value.bool false, Value.slice none 0 0, Value.bool false, Value.slice none 0 0, Value.slice none 0 0]).flatten)) V1 ∧
    (∀ (x2 : L_transform_Forward_num_Num__0) (V2 : View), View.le V1 V2 → I_transform_Forward_num_Num__0 () x2 V2 →
      ((decide ((x2.t21 : Int) < ((Int.toNat (p0.len : Int) : Nat) : Int))) = true →
        ((0 : Int) ≤ 0 ∧ (0 : Int) < (p0.len : Nat) ∧ Option.isSome p0.a = true) ∧
      ∃ x3 : NumV, View.has V2 (Option.map (fun q => Addr.add q (Int.toNat 0 * 5)) p0.a) (x3.val).cells.toList ∧ Option.isSome (Option.map (fun q => Addr.add q (Int.toNat 0 * 5)) p0.a) = true ∧
      ((0 : Int) ≤ 0 ∧ (0 : Int) < (p1.len : Nat) ∧ Option.isSome p1.a = true) ∧
      ∃ x4 : NumV, View.has V2 (Option.map (fun q => Addr.add q (Int.toNat 0 * 5)) p1.a) (x4.val).cells.toList ∧ Option.isSome (Option.map (fun q => Addr.add q (Int.toNat 0 * 5)) p1.a) = true ∧
      CallV Tryz.prog 141 #[x3.val, x4.val] V2 fun v V3 => ∃ r2 : NumV, v = r2.val ∧ -- (num.Num).Mul
      I_transform_Forward_num_Num__1 (C_transform_Forward_num_Num__1.mk x2.t21 x2.t21) (L_transform_Forward_num_Num__1.mk 1 r2 x2.o18) V3 ∧
      (∀ (x6 : L_transform_Forward_num_Num__1) (V4 : View), View.le V3 V4 → I_transform_Forward_num_Num__1 (C_transform_Forward_num_Num__1.mk x2.t21 x2.t21) x6 V4 →
        ((decide ((x6.t10 : Int) < (p0.len : Int))) = true →
          ((0 : Int) ≤ x6.t10 ∧ (x6.t10 : Int) < (p0.len : Nat) ∧ Option.isSome p0.a = true) ∧
        ∃ x7 : NumV, View.has V4 (Option.map (fun q => Addr.add q (Int.toNat x6.t10 * 5)) p0.a) (x7.val).cells.toList ∧ Option.isSome (Option.map (fun q => Addr.add q (Int.toNat x6.t10 * 5)) p0.a) = true ∧
        ((p0.len : Int) : Int) ≠ 0 ∧
        ((0 : Int) ≤ (Int.tmod (IntKind.i64.wrap (x6.t10 * x2.t21)) (p0.len : Int)) ∧ ((Int.tmod (IntKind.i64.wrap (x6.t10 * x2.t21)) (p0.len : Int)) : Int) < (p1.len : Nat) ∧ Option.isSome p1.a = true) ∧
        ∃ x8 : NumV, View.has V4 (Option.map (fun q => Addr.add q (Int.toNat (Int.tmod (IntKind.i64.wrap (x6.t10 * x2.t21)) (p0.len : Int)) * 5)) p1.a) (x8.val).cells.toList ∧ Option.isSome (Option.map (fun q => Addr.add q (Int.toNat (Int.tmod (IntKind.i64.wrap (x6.t10 * x2.t21)) (p0.len : Int)) * 5)) p1.a) = true ∧
        CallV Tryz.prog 141 #[x7.val, x8.val] V4 fun v V5 => ∃ r3 : NumV, v = r3.val ∧ -- (num.Num).Mul
        CallV Tryz.prog 142 #[x6.o9.val, r3.val] V5 fun v V6 => ∃ r4 : NumV, v = r4.val ∧ -- (num.Num).Add
        I_transform_Forward_num_Num__1 (C_transform_Forward_num_Num__1.mk x2.t21 x2.t21) (L_transform_Forward_num_Num__1.mk (IntKind.i64.wrap (x6.t10 + 1)) r4 x6.o18) V6 ∧ mu_transform_Forward_num_Num__1 (C_transform_Forward_num_Num__1.mk x2.t21 x2.t21) (L_transform_Forward_num_Num__1.mk (IntKind.i64.wrap (x6.t10 + 1)) r4 x6.o18) V6 < mu_transform_Forward_num_Num__1 (C_transform_Forward_num_Num__1.mk x2.t21 x2.t21) x6 V4) ∧
        ((decide ((x6.t10 : Int) < (p0.len : Int))) = false →
          ((0 : Int) ≤ x2.t21 ∧ (x2.t21 : Int) < (Int.toNat (p0.len : Int) : Nat)) ∧
      0 + Int.toNat x2.t21 * 5 + 5 ≤ List.length x6.o18 ∧
      I_transform_Forward_num_Num__0 () (L_transform_Forward_num_Num__0.mk (IntKind.i64.wrap (x2.t21 + 1)) (setL x6.o18 (0 + Int.toNat x2.t21 * 5) [.bool x6.o9.re.neg, x6.o9.re.mag.v, .bool x6.o9.im.neg, x6.o9.im.mag.v, x6.o9.under.v])) V4 ∧ mu_transform_Forward_num_Num__0 () (L_transform_Forward_num_Num__0.mk (IntKind.i64.wrap (x2.t21 + 1)) (setL x6.o18 (0 + Int.toNat x2.t21 * 5) [.bool x6.o9.re.neg, x6.o9.re.mag.v, .bool x6.o9.im.neg, x6.o9.im.mag.v, x6.o9.under.v])) V4 < mu_transform_Forward_num_Num__0 () x2 V2))) ∧
      ((decide ((x2.t21 : Int) < ((Int.toNat (p0.len : Int) : Nat) : Int))) = false →
        ((Int.toNat (p0.len : Int)) ≠ 0 ∧ x2.o18 ≠ []) ∧ R (Int.toNat (p0.len : Int)) (Int.toNat (p0.len : Int)) x2.o18 [Value.int .i64 0] V2)))) :
  CallO Tryz.prog 41 #[p0.v, p1.v] 68 V R :=
  calls_of_vcO (Shp := Shp) hmixed Tryz.func41 (c := Tryz.f41.body.getD .skip) (args := [p0.v, p1.v]) (by kernel_rfl)
    (.seq (.reg [⟨4, 2, false⟩, ⟨5, 2, false⟩]) (.seq (.seq (.reg [⟨11, 2, false⟩, ⟨12, 2, false⟩, ⟨13, 10, false⟩, ⟨14, 0, false⟩]) (.cond (.seq (.reg [⟨4, 2, false⟩, ⟨5, 2, false⟩]) .leaf) .leaf)) (.seq (.reg [⟨15, 2, false⟩, ⟨16, 0, false⟩, ⟨6, 2, false⟩]) (.seq (.reg [⟨17, 2, false⟩, ⟨18, 3, false⟩, ⟨7, 2, false⟩]) (.seq (.seq (.reg [⟨19, 2, false⟩, ⟨20, 7, false⟩, ⟨21, 2, false⟩]) (.block (.loop Unit L_transform_Forward_num_Num__0 (fun _ => ()) (fun c x => { tm := spT 60 0 [(0, .val (p0.v)), (1, .val (p1.v)), (6, .val (.int .i64 (p0.len : Int))), (7, .osl 18 0 (Int.toNat (p0.len : Int)) (Int.toNat (p0.len : Int))), (20, .val (.int .i64 ((Int.toNat (p0.len : Int) : Nat) : Int))), (21, .val (.int .i64 x.t21))], own := spO 60 0 [(18, ⟨68, .dyn x.o18⟩)] }) I_transform_Forward_num_Num__0 mu_transform_Forward_num_Num__0 (.seq (.reg [⟨22, 0, false⟩]) (.seq (.cond .leaf .leaf) (.seq (.block (.seq (.reg [⟨23, 2, false⟩, ⟨8, 2, false⟩]) (.seq (.draw [(0, ⟨24, 2, false⟩), (1, ⟨25, 7, false⟩), (2, ⟨26, 5, false⟩), (3, ⟨27, 0, false⟩), (4, ⟨28, 2, false⟩), (5, ⟨29, 7, false⟩), (6, ⟨30, 5, false⟩), (8, ⟨9, 3, false⟩), (7, ⟨31, 10, false⟩), (9, ⟨9, 6, false⟩)] [0, 1, 3, 7, 0, 16, 48, 127, 0, 511]) (.seq (.seq (.reg [⟨10, 2, false⟩]) (.block (.loop C_transform_Forward_num_Num__1 L_transform_Forward_num_Num__1 (fun σ => C_transform_Forward_num_Num__1.mk (gInt (gTm σ 8)) (gInt (gTm σ 21))) (fun c x => { tm := spT 60 0 [(0, .val (p0.v)), (1, .val (p1.v)), (6, .val (.int .i64 (p0.len : Int))), (7, .osl 18 0 (Int.toNat (p0.len : Int)) (Int.toNat (p0.len : Int))), (8, .val (.int .i64 c.t8)), (9, .own 9 0), (10, .val (.int .i64 x.t10)), (20, .val (.int .i64 ((Int.toNat (p0.len : Int) : Nat) : Int))), (21, .val (.int .i64 c.t21))], own := spO 60 0 [(9, ⟨68, .fixed [.val (.bool x.o9.re.neg), .val (x.o9.re.mag.v), .val (.bool x.o9.im.neg), .val (x.o9.im.mag.v), .val (x.o9.under.v)]⟩), (18, ⟨68, .dyn x.o18⟩)] }) I_transform_Forward_num_Num__1 mu_transform_Forward_num_Num__1 (.seq (.seq (.reg [⟨32, 2, false⟩, ⟨33, 2, false⟩, ⟨34, 0, false⟩]) (.cond .leaf .leaf)) (.seq (.block (.draw [(0, ⟨9, 4, false⟩), (1, ⟨38, 0, false⟩), (2, ⟨39, 2, false⟩), (3, ⟨40, 2, false⟩), (4, ⟨41, 7, false⟩), (5, ⟨42, 5, false⟩), (6, ⟨43, 0, false⟩), (7, ⟨44, 2, false⟩), (8, ⟨45, 2, false⟩), (9, ⟨46, 2, false⟩), (10, ⟨47, 0, false⟩), (11, ⟨48, 2, false⟩), (12, ⟨49, 12, false⟩), (13, ⟨50, 7, false⟩), (14, ⟨51, 5, false⟩), (15, ⟨52, 10, false⟩), (16, ⟨53, 10, false⟩), (17, ⟨9, 6, false⟩)] [0, 1, 0, 0, 12, 28, 60, 0, 0, 0, 768, 0, 3840, 8064, 16256, 32764, 65535, 131071])) (.reg [⟨35, 2, false⟩, ⟨36, 0, false⟩, ⟨10, 2, false⟩])))))) (.reg [⟨54, 2, false⟩, ⟨55, 2, false⟩, ⟨9, 4, false⟩, ⟨57, 7, false⟩, ⟨18, 6, false⟩]))))) (.reg [⟨58, 0, false⟩, ⟨21, 2, false⟩]))))))) (.seq (.reg [⟨59, 2, false⟩, ⟨4, 2, false⟩, ⟨5, 2, false⟩]) .leaf))))))
    (Eq.mpr (by kernel_rfl) (show CallV Tryz.prog 107 #[p0.v, p1.v] V fun v V1 => ∃ r1 : Bool, v = .bool r1 ∧ -- transform.fits[num.Num]
    ((!r1) = true →
      R 0 0 [] [Value.int .i64 4] V1) ∧
    ((!r1) = false →
      ((0 : Int) ≤ (p0.len : Int) ∧ ((p0.len : Int) : Int) ≤ (p0.len : Int) ∧ (88 : Int) * (p0.len : Int) ≤ 281474976710656 ∧ ((p0.len : Int) : Int) ≤ 9223372036854775807) ∧
    (∃ x1 : L_transform_Forward_num_Num__0, ((SV.val (p0.v) = SV.val (p0.v) ∧ SV.val (p1.v) = SV.val (p1.v) ∧ SV.val (.int .i64 (p0.len : Int)) = SV.val (.int .i64 (p0.len : Int)) ∧ SV.osl 18 0 (Int.toNat (p0.len : Int)) (Int.toNat (p0.len : Int)) = SV.osl 18 0 (Int.toNat (p0.len : Int)) (Int.toNat (p0.len : Int)) ∧ SV.val (.int .i64 ((Int.toNat (p0.len : Int) : Nat) : Int)) = SV.val (.int .i64 ((Int.toNat (p0.len : Int) : Nat) : Int)) ∧ SV.val (.int .i64 0) = SV.val (.int .i64 x1.t21) ∧ True) ∧ ((some (⟨68, .dyn ((List.replicate (Int.toNat (p0.len : Int)) [Value.bool false, Value.slice none 0 0, Value.bool false, Value.slice none 0 0, Value.slice none 0 0]).flatten)⟩) : Option OB) = some (⟨68, .dyn x1.o18⟩) ∧ True)) ∧ I_transform_Forward_num_Num__0 () x1 V1) ∧
    (∀ (x2 : L_transform_Forward_num_Num__0) (V2 : View), View.le V1 V2 → I_transform_Forward_num_Num__0 () x2 V2 →
      ((decide ((x2.t21 : Int) < ((Int.toNat (p0.len : Int) : Nat) : Int))) = true →
        ((0 : Int) ≤ 0 ∧ (0 : Int) < (p0.len : Nat) ∧ Option.isSome p0.a = true) ∧
      ∃ x3 : NumV, View.has V2 (Option.map (fun q => Addr.add q (Int.toNat 0 * 5)) p0.a) (x3.val).cells.toList ∧ Option.isSome (Option.map (fun q => Addr.add q (Int.toNat 0 * 5)) p0.a) = true ∧
      ((0 : Int) ≤ 0 ∧ (0 : Int) < (p1.len : Nat) ∧ Option.isSome p1.a = true) ∧
      ∃ x4 : NumV, View.has V2 (Option.map (fun q => Addr.add q (Int.toNat 0 * 5)) p1.a) (x4.val).cells.toList ∧ Option.isSome (Option.map (fun q => Addr.add q (Int.toNat 0 * 5)) p1.a) = true ∧
      CallV Tryz.prog 141 #[x3.val, x4.val] V2 fun v V3 => ∃ r2 : NumV, v = r2.val ∧ -- (num.Num).Mul
      (∃ x5 : L_transform_Forward_num_Num__1, ((SV.val (p0.v) = SV.val (p0.v) ∧ SV.val (p1.v) = SV.val (p1.v) ∧ SV.val (.int .i64 (p0.len : Int)) = SV.val (.int .i64 (p0.len : Int)) ∧ SV.osl 18 0 (Int.toNat (p0.len : Int)) (Int.toNat (p0.len : Int)) = SV.osl 18 0 (Int.toNat (p0.len : Int)) (Int.toNat (p0.len : Int)) ∧ SV.val (.int .i64 x2.t21) = SV.val (.int .i64 x2.t21) ∧ SV.own 9 0 = SV.own 9 0 ∧ SV.val (.int .i64 1) = SV.val (.int .i64 x5.t10) ∧ SV.val (.int .i64 ((Int.toNat (p0.len : Int) : Nat) : Int)) = SV.val (.int .i64 ((Int.toNat (p0.len : Int) : Nat) : Int)) ∧ SV.val (.int .i64 x2.t21) = SV.val (.int .i64 x2.t21) ∧ True) ∧ ((some (⟨68, .fixed [.val (.bool r2.re.neg), .val (r2.re.mag.v), .val (.bool r2.im.neg), .val (r2.im.mag.v), .val (r2.under.v)]⟩) : Option OB) = some (⟨68, .fixed [.val (.bool x5.o9.re.neg), .val (x5.o9.re.mag.v), .val (.bool x5.o9.im.neg), .val (x5.o9.im.mag.v), .val (x5.o9.under.v)]⟩) ∧ (some (⟨68, .dyn x2.o18⟩) : Option OB) = some (⟨68, .dyn x5.o18⟩) ∧ True)) ∧ I_transform_Forward_num_Num__1 (C_transform_Forward_num_Num__1.mk x2.t21 x2.t21) x5 V3) ∧
      (∀ (x6 : L_transform_Forward_num_Num__1) (V4 : View), View.le V3 V4 → I_transform_Forward_num_Num__1 (C_transform_Forward_num_Num__1.mk x2.t21 x2.t21) x6 V4 →
        ((decide ((x6.t10 : Int) < (p0.len : Int))) = true →
          ((0 : Int) ≤ x6.t10 ∧ (x6.t10 : Int) < (p0.len : Nat) ∧ Option.isSome p0.a = true) ∧
        ∃ x7 : NumV, View.has V4 (Option.map (fun q => Addr.add q (Int.toNat x6.t10 * 5)) p0.a) (x7.val).cells.toList ∧ Option.isSome (Option.map (fun q => Addr.add q (Int.toNat x6.t10 * 5)) p0.a) = true ∧
        ((p0.len : Int) : Int) ≠ 0 ∧
        ((0 : Int) ≤ (Int.tmod (IntKind.i64.wrap (x6.t10 * x2.t21)) (p0.len : Int)) ∧ ((Int.tmod (IntKind.i64.wrap (x6.t10 * x2.t21)) (p0.len : Int)) : Int) < (p1.len : Nat) ∧ Option.isSome p1.a = true) ∧
        ∃ x8 : NumV, View.has V4 (Option.map (fun q => Addr.add q (Int.toNat (Int.tmod (IntKind.i64.wrap (x6.t10 * x2.t21)) (p0.len : Int)) * 5)) p1.a) (x8.val).cells.toList ∧ Option.isSome (Option.map (fun q => Addr.add q (Int.toNat (Int.tmod (IntKind.i64.wrap (x6.t10 * x2.t21)) (p0.len : Int)) * 5)) p1.a) = true ∧
        CallV Tryz.prog 141 #[x7.val, x8.val] V4 fun v V5 => ∃ r3 : NumV, v = r3.val ∧ -- (num.Num).Mul
        CallV Tryz.prog 142 #[x6.o9.val, r3.val] V5 fun v V6 => ∃ r4 : NumV, v = r4.val ∧ -- (num.Num).Add
        ∃ x9 : L_transform_Forward_num_Num__1, ((SV.val (p0.v) = SV.val (p0.v) ∧ SV.val (p1.v) = SV.val (p1.v) ∧ SV.val (.int .i64 (p0.len : Int)) = SV.val (.int .i64 (p0.len : Int)) ∧ SV.osl 18 0 (Int.toNat (p0.len : Int)) (Int.toNat (p0.len : Int)) = SV.osl 18 0 (Int.toNat (p0.len : Int)) (Int.toNat (p0.len : Int)) ∧ SV.val (.int .i64 x2.t21) = SV.val (.int .i64 x2.t21) ∧ SV.own 9 0 = SV.own 9 0 ∧ SV.val (.int .i64 (IntKind.i64.wrap (x6.t10 + 1))) = SV.val (.int .i64 x9.t10) ∧ SV.val (.int .i64 ((Int.toNat (p0.len : Int) : Nat) : Int)) = SV.val (.int .i64 ((Int.toNat (p0.len : Int) : Nat) : Int)) ∧ SV.val (.int .i64 x2.t21) = SV.val (.int .i64 x2.t21) ∧ True) ∧ ((some (⟨68, .fixed [.val (.bool r4.re.neg), .val (r4.re.mag.v), .val (.bool r4.im.neg), .val (r4.im.mag.v), .val (r4.under.v)]⟩) : Option OB) = some (⟨68, .fixed [.val (.bool x9.o9.re.neg), .val (x9.o9.re.mag.v), .val (.bool x9.o9.im.neg), .val (x9.o9.im.mag.v), .val (x9.o9.under.v)]⟩) ∧ (some (⟨68, .dyn x6.o18⟩) : Option OB) = some (⟨68, .dyn x9.o18⟩) ∧ True)) ∧ I_transform_Forward_num_Num__1 (C_transform_Forward_num_Num__1.mk x2.t21 x2.t21) x9 V6 ∧ mu_transform_Forward_num_Num__1 (C_transform_Forward_num_Num__1.mk x2.t21 x2.t21) x9 V6 < mu_transform_Forward_num_Num__1 (C_transform_Forward_num_Num__1.mk x2.t21 x2.t21) x6 V4) ∧
        ((decide ((x6.t10 : Int) < (p0.len : Int))) = false →
          ((0 : Int) ≤ x2.t21 ∧ (x2.t21 : Int) < (Int.toNat (p0.len : Int) : Nat)) ∧
      0 + Int.toNat x2.t21 * 5 + 5 ≤ List.length x6.o18 ∧
      ∃ x10 : L_transform_Forward_num_Num__0, ((SV.val (p0.v) = SV.val (p0.v) ∧ SV.val (p1.v) = SV.val (p1.v) ∧ SV.val (.int .i64 (p0.len : Int)) = SV.val (.int .i64 (p0.len : Int)) ∧ SV.osl 18 0 (Int.toNat (p0.len : Int)) (Int.toNat (p0.len : Int)) = SV.osl 18 0 (Int.toNat (p0.len : Int)) (Int.toNat (p0.len : Int)) ∧ SV.val (.int .i64 ((Int.toNat (p0.len : Int) : Nat) : Int)) = SV.val (.int .i64 ((Int.toNat (p0.len : Int) : Nat) : Int)) ∧ SV.val (.int .i64 (IntKind.i64.wrap (x2.t21 + 1))) = SV.val (.int .i64 x10.t21) ∧ True) ∧ ((some (⟨68, .dyn (setL x6.o18 (0 + Int.toNat x2.t21 * 5) [.bool x6.o9.re.neg, x6.o9.re.mag.v, .bool x6.o9.im.neg, x6.o9.im.mag.v, x6.o9.under.v])⟩) : Option OB) = some (⟨68, .dyn x10.o18⟩) ∧ True)) ∧ I_transform_Forward_num_Num__0 () x10 V4 ∧ mu_transform_Forward_num_Num__0 () x10 V4 < mu_transform_Forward_num_Num__0 () x2 V2))) ∧
      ((decide ((x2.t21 : Int) < ((Int.toNat (p0.len : Int) : Nat) : Int))) = false →
        ((Int.toNat (p0.len : Int)) ≠ 0 ∧ x2.o18 ≠ []) ∧ R (Int.toNat (p0.len : Int)) (Int.toNat (p0.len : Int)) x2.o18 [Value.int .i64 0] V2))) from (CallV.mono h (fun _ _ _ ⟨r1, h27, h26⟩ => ⟨r1, h27, ⟨fun h25 => (h26.1 h25), fun h25 => ⟨(h26.2 h25).1, ⟨⟨(L_transform_Forward_num_Num__0.mk 0 ((List.replicate (Int.toNat (p0.len : Int)) [Value.bool false, Value.slice none 0 0, Value.bool false, Value.slice none 0 0, Value.slice none 0 0]).flatten)), ⟨⟨rfl, rfl, rfl, rfl, rfl, rfl, trivial⟩, ⟨rfl, trivial⟩⟩, (h26.2 h25).2.1⟩, fun x2 V2 h23 h24 => ⟨fun h22 => ⟨(((h26.2 h25).2.2 x2 V2 h23 h24).1 h22).1, (match (((h26.2 h25).2.2 x2 V2 h23 h24).1 h22).2 with | ⟨x3, h20, h21, h19⟩ => ⟨x3, h20, h21, ⟨h19.1, (match h19.2 with | ⟨x4, h17, h18, h16⟩ => ⟨x4, h17, h18, (CallV.mono h16 (fun _ _ _ ⟨r2, h15, h14⟩ => ⟨r2, h15, ⟨⟨(L_transform_Forward_num_Num__1.mk 1 r2 x2.o18), ⟨⟨rfl, rfl, rfl, rfl, rfl, rfl, rfl, rfl, rfl, trivial⟩, ⟨rfl, rfl, trivial⟩⟩, h14.1⟩, fun x6 V4 h12 h13 => ⟨fun h11 => ⟨((h14.2 x6 V4 h12 h13).1 h11).1, (match ((h14.2 x6 V4 h12 h13).1 h11).2 with | ⟨x7, h9, h10, h8⟩ => ⟨x7, h9, h10, ⟨h8.1, ⟨h8.2.1, (match h8.2.2 with | ⟨x8, h6, h7, h5⟩ => ⟨x8, h6, h7, (CallV.mono h5 (fun _ _ _ ⟨r3, h4, h3⟩ => ⟨r3, h4, (CallV.mono h3 (fun _ _ _ ⟨r4, h2, h1⟩ => ⟨r4, h2, ⟨(L_transform_Forward_num_Num__1.mk (IntKind.i64.wrap (x6.t10 + 1)) r4 x6.o18), ⟨⟨rfl, rfl, rfl, rfl, rfl, rfl, rfl, rfl, rfl, trivial⟩, ⟨rfl, rfl, trivial⟩⟩, h1.1, h1.2⟩⟩))⟩))⟩)⟩⟩⟩)⟩, fun h11 => ⟨((h14.2 x6 V4 h12 h13).2 h11).1, ⟨((h14.2 x6 V4 h12 h13).2 h11).2.1, ⟨(L_transform_Forward_num_Num__0.mk (IntKind.i64.wrap (x2.t21 + 1)) (setL x6.o18 (0 + Int.toNat x2.t21 * 5) [.bool x6.o9.re.neg, x6.o9.re.mag.v, .bool x6.o9.im.neg, x6.o9.im.mag.v, x6.o9.under.v])), ⟨⟨rfl, rfl, rfl, rfl, rfl, rfl, trivial⟩, ⟨rfl, trivial⟩⟩, ((h14.2 x6 V4 h12 h13).2 h11).2.2.1, ((h14.2 x6 V4 h12 h13).2 h11).2.2.2⟩⟩⟩⟩⟩⟩))⟩)⟩⟩)⟩, fun h22 => (((h26.2 h25).2.2 x2 V2 h23 h24).2 h22)⟩⟩⟩⟩⟩))))

/-- waveport/transform.Back[waveport/num.Num] -/
theorem transform_Back_num_Num__vc (p0 : Sl) (p1 : Sl) (V : View) (R : Value → View → Prop) 
  (h :
    CallV Tryz.prog 107 #[p0.v, p1.v] V fun v V1 => ∃ r1 : Bool, v = .bool r1 ∧ -- transform.fits[num.Num]
    ((!r1) = true →
      R (.tuple #[(Sl.mk none 0 0).v, .int .i64 4]) V1) ∧
    ((!r1) = false →
      CallV Tryz.prog 111 #[p1.v] V1 fun v V2 => ∃ r2 : Sl, v = r2.v ∧ -- transform.conjugates[num.Num]
    CallO Tryz.prog 41 #[p0.v, r2.v] 68 V2 fun n1 c1 l1 rest V3 => ∃ r3 : Int, rest = [Value.int .i64 r3] ∧ -- transform.Forward[num.Num]
    (l1 ≠ [] ∧ (c1 ≠ 0 ∧ c1 ≠ 0 ∧ True) ∧ (True)) ∧
    CallDS Tryz.prog 112 (fun b => (Value.slice (some ⟨b, 0, none⟩) n1 c1 :: [] : List Value)) 68 l1 V3 fun l2 V4 => -- transform.shares[num.Num]
    ∀ (b1 : Nat) (V5 : View), View.le V4 V5 → V5 b1 = some (List.toArray l2) →
    R (.tuple #[(Sl.mk (some (Addr.mk b1 0 none)) n1 c1).v, .int .i64 0]) V5)) :
  CallV Tryz.prog 44 #[p0.v, p1.v] V R :=
  calls_of_vc (Shp := Shp) hmixed Tryz.func44 (c := Tryz.f44.body.getD .skip) (args := [p0.v, p1.v]) (by kernel_rfl)
    (.seq (.reg [⟨4, 2, false⟩, ⟨5, 2, false⟩]) (.seq (.seq (.reg [⟨8, 2, false⟩, ⟨9, 2, false⟩, ⟨10, 10, false⟩, ⟨11, 0, false⟩]) (.cond (.seq (.reg [⟨4, 2, false⟩, ⟨5, 2, false⟩]) .leaf) .leaf)) (.seq (.reg [⟨13, 2, false⟩, ⟨14, 2, false⟩, ⟨15, 10, false⟩, ⟨16, 18, false⟩, ⟨12, 2, false⟩, ⟨17, 2, false⟩, ⟨18, 2, false⟩, ⟨6, 2, false⟩, ⟨7, 2, false⟩]) (.seq (.solid 16 (.reg [⟨19, 2, false⟩, ⟨16, 19, false⟩, ⟨4, 2, false⟩, ⟨5, 2, false⟩])) (.pub 16 .leaf)))))
    (Eq.mpr (by kernel_rfl) h)

/-- waveport/transform.FastBack[waveport/num.Num] -/
theorem transform_FastBack_num_Num__vc (p0 : Sl) (p1 : Sl) (V : View) (R : Value → View → Prop) 
  (h :
    CallV Tryz.prog 107 #[p0.v, p1.v] V fun v V1 => ∃ r1 : Bool, v = .bool r1 ∧ -- transform.fits[num.Num]
    ((!r1) = true →
      R (.tuple #[(Sl.mk none 0 0).v, .int .i64 4]) V1) ∧
    ((!r1) = false →
      CallV Tryz.prog 111 #[p1.v] V1 fun v V2 => ∃ r2 : Sl, v = r2.v ∧ -- transform.conjugates[num.Num]
    CallO Tryz.prog 115 #[p0.v, r2.v] 68 V2 fun n1 c1 l1 rest V3 => rest = [] ∧ -- transform.stage[num.Num]
    (c1 ≠ 0 ∧ l1 ≠ []) ∧
    CallDS Tryz.prog 112 (fun b => (Value.slice (some ⟨b, 0, none⟩) n1 c1 :: [] : List Value)) 68 l1 V3 fun l2 V4 => -- transform.shares[num.Num]
    ∀ (b1 : Nat) (V5 : View), View.le V4 V5 → V5 b1 = some (List.toArray l2) →
    R (.tuple #[(Sl.mk (some (Addr.mk b1 0 none)) n1 c1).v, .int .i64 0]) V5)) :
  CallV Tryz.prog 48 #[p0.v, p1.v] V R :=
  calls_of_vc (Shp := Shp) hmixed Tryz.func48 (c := Tryz.f48.body.getD .skip) (args := [p0.v, p1.v]) (by kernel_rfl)
    (.seq (.reg [⟨4, 2, false⟩, ⟨5, 2, false⟩]) (.seq (.seq (.reg [⟨6, 2, false⟩, ⟨7, 2, false⟩, ⟨8, 10, false⟩, ⟨9, 0, false⟩]) (.cond (.seq (.reg [⟨4, 2, false⟩, ⟨5, 2, false⟩]) .leaf) .leaf)) (.seq (.reg [⟨10, 2, false⟩, ⟨11, 2, false⟩, ⟨12, 10, false⟩, ⟨13, 18, true⟩, ⟨13, 19, false⟩, ⟨4, 2, false⟩, ⟨5, 2, false⟩]) (.pub 13 .leaf))))
    (Eq.mpr (by kernel_rfl) h)

end Go.Proofs.YtcapadojlaojkaaGreat
