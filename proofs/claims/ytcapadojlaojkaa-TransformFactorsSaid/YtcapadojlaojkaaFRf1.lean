/- Part of the proof; it has the parts FRf1. -/
import Derived.Test.YtcapadojlaojkaaFFac
set_option maxRecDepth 100000
set_option maxHeartbeats 4000000
namespace Go.Proofs.Ytcapadojlaojkaa
open Go Go.Vc Go.Proofs

structure L_waveportref07_Length_0 where
  t3 : Int
/-- waveport/waveportref07.Length -/
theorem waveportref07_Length_vc (p0 : Int) (V : View) (R : Value → View → Prop) (I_waveportref07_Length_0 : Unit → L_waveportref07_Length_0 → View → Prop) (mu_waveportref07_Length_0 : Unit → L_waveportref07_Length_0 → View → Nat)
  (h :
    I_waveportref07_Length_0 () (L_waveportref07_Length_0.mk 1) V ∧
    (∀ (x2 : L_waveportref07_Length_0) (V1 : View), View.le V V1 → I_waveportref07_Length_0 () x2 V1 →
      ((decide ((x2.t3 : Int) ≤ 64)) = true →
        (((p0 : Int) == x2.t3) = true →
        R (.bool true) V1) ∧
      (((p0 : Int) == x2.t3) = false →
        I_waveportref07_Length_0 () (L_waveportref07_Length_0.mk (IntKind.i64.wrap (x2.t3 * 2))) V1 ∧ mu_waveportref07_Length_0 () (L_waveportref07_Length_0.mk (IntKind.i64.wrap (x2.t3 * 2))) V1 < mu_waveportref07_Length_0 () x2 V1)) ∧
      ((decide ((x2.t3 : Int) ≤ 64)) = false →
        R (.bool false) V1))) :
  CallV Try.prog 62 #[.int .i64 p0] V R :=
  calls_of_vc (Shp := Shp) hmixed Try.func62 (c := Try.f62.body.getD .skip) (args := [.int .i64 p0]) (by kernel_rfl)
    (.seq (.reg [⟨2, 2, false⟩]) (.seq (.seq (.reg [⟨3, 2, false⟩]) (.block (.loop Unit L_waveportref07_Length_0 (fun _ => ()) (fun c x => { tm := spT 11 0 [(0, .val (.int .i64 p0)), (3, .val (.int .i64 x.t3))], own := spO 11 0 [] }) I_waveportref07_Length_0 mu_waveportref07_Length_0 (.seq (.seq (.reg [⟨4, 2, false⟩, ⟨5, 0, false⟩]) (.cond .leaf .leaf)) (.seq (.block (.seq (.reg [⟨8, 2, false⟩, ⟨9, 2, false⟩, ⟨10, 0, false⟩]) (.cond (.seq (.reg [⟨2, 2, false⟩]) .leaf) .leaf))) (.reg [⟨6, 2, false⟩, ⟨7, 0, false⟩, ⟨3, 2, false⟩])))))) (.seq (.reg [⟨2, 2, false⟩]) .leaf)))
    (Eq.mpr (by kernel_rfl) (show (∃ x1 : L_waveportref07_Length_0, ((SV.val (.int .i64 p0) = SV.val (.int .i64 p0) ∧ SV.val (.int .i64 1) = SV.val (.int .i64 x1.t3) ∧ True) ∧ (True)) ∧ I_waveportref07_Length_0 () x1 V) ∧
    (∀ (x2 : L_waveportref07_Length_0) (V1 : View), View.le V V1 → I_waveportref07_Length_0 () x2 V1 →
      ((decide ((x2.t3 : Int) ≤ 64)) = true →
        (((p0 : Int) == x2.t3) = true →
        R (.bool true) V1) ∧
      (((p0 : Int) == x2.t3) = false →
        ∃ x3 : L_waveportref07_Length_0, ((SV.val (.int .i64 p0) = SV.val (.int .i64 p0) ∧ SV.val (.int .i64 (IntKind.i64.wrap (x2.t3 * 2))) = SV.val (.int .i64 x3.t3) ∧ True) ∧ (True)) ∧ I_waveportref07_Length_0 () x3 V1 ∧ mu_waveportref07_Length_0 () x3 V1 < mu_waveportref07_Length_0 () x2 V1)) ∧
      ((decide ((x2.t3 : Int) ≤ 64)) = false →
        R (.bool false) V1)) from ⟨⟨(L_waveportref07_Length_0.mk 1), ⟨⟨rfl, rfl, trivial⟩, trivial⟩, h.1⟩, fun x2 V1 h3 h4 => ⟨fun h2 => ⟨fun h1 => (((h.2 x2 V1 h3 h4).1 h2).1 h1), fun h1 => ⟨(L_waveportref07_Length_0.mk (IntKind.i64.wrap (x2.t3 * 2))), ⟨⟨rfl, rfl, trivial⟩, trivial⟩, (((h.2 x2 V1 h3 h4).1 h2).2 h1).1, (((h.2 x2 V1 h3 h4).1 h2).2 h1).2⟩⟩, fun h2 => ((h.2 x2 V1 h3 h4).2 h2)⟩⟩))

structure L_waveportref07_Exact_0 where
  t6l : Nat
  t6c : Nat
  t7 : Int
  o19 : List Value
structure C_waveportref07_Exact_0 where
  o4_0 : Bool
  o4_1 : Sl
  o4_2 : Bool
  o4_3 : Sl
  o4_4 : Sl
/-- waveport/waveportref07.Exact -/
theorem waveportref07_Exact_vc (p0 : Int) (V : View) (R : Value → View → Prop) (I_waveportref07_Exact_0 : C_waveportref07_Exact_0 → L_waveportref07_Exact_0 → View → Prop) (mu_waveportref07_Exact_0 : C_waveportref07_Exact_0 → L_waveportref07_Exact_0 → View → Nat)
  (h :
    CallV Try.prog 62 #[.int .i64 p0] V fun v V1 => ∃ r1 : Bool, v = .bool r1 ∧ -- waveportref07.Length
    ((!r1) = true →
      R (.tuple #[(Sl.mk none 0 0).v, .int .i64 4]) V1) ∧
    ((!r1) = false →
      ((decide ((p0 : Int) > 4)) = true →
      R (.tuple #[(Sl.mk none 0 0).v, .int .i64 5]) V1) ∧
    ((decide ((p0 : Int) > 4)) = false →
      CallV Try.prog 63 #[.int .i64 0, .int .i64 (-1), .int .i64 1] V1 fun v V2 => ∃ (r2 : NumV) (r3 : Int), v = .tuple #[r2.val, .int .i64 r3] ∧ -- waveportref01.New
    CallV Try.prog 64 #[.int .i64 1] V2 fun v V3 => ∃ r4 : NumV, v = r4.val ∧ -- waveportref01.Whole
    I_waveportref07_Exact_0 (C_waveportref07_Exact_0.mk r2.re.neg r2.re.mag r2.im.neg r2.im.mag r2.under) (L_waveportref07_Exact_0.mk 1 1 1 ([.bool r4.re.neg, r4.re.mag.v, .bool r4.im.neg, r4.im.mag.v, r4.under.v] : List Value)) V3 ∧
    (∀ (x2 : L_waveportref07_Exact_0) (V4 : View), View.le V3 V4 → I_waveportref07_Exact_0 (C_waveportref07_Exact_0.mk r2.re.neg r2.re.mag r2.im.neg r2.im.mag r2.under) x2 V4 →
      ((decide ((x2.t7 : Int) < p0)) = true →
        (x2.o19 ≠ [] ∧ (True) ∧ ((True) ∧ True)) ∧
      ((0 : Int) ≤ (IntKind.i64.wrap (x2.t7 - 1)) ∧ ((IntKind.i64.wrap (x2.t7 - 1)) : Int) < (x2.t6l : Nat)) ∧
      ∃ x3 : NumV, List.take 5 (List.drop (0 + Int.toNat (IntKind.i64.wrap (x2.t7 - 1)) * 5) x2.o19) = (x3.val).cells.toList ∧
      CallV Try.prog 65 #[x3.val, r2.val] V4 fun v V5 => ∃ r5 : NumV, v = r5.val ∧ -- waveportref01.Mul
      (((p0 : Int) == 2) = true →
        CallV Try.prog 65 #[r5.val, r2.val] V5 fun v V6 => ∃ r6 : NumV, v = r6.val ∧ -- waveportref01.Mul
        ∀ (b1 : Nat) (V7 : View), View.le V6 V7 → View.Fin V7 → V7 b1 = some #[.bool r6.re.neg, r6.re.mag.v, .bool r6.im.neg, r6.im.mag.v, r6.under.v] →
      ∃ (l1 : List Value) (l2 : List Value), LstOk 5 x2.t6l x2.t6c x2.o19 l1 ∧ View.has V7 (some (Addr.mk b1 0 none)) l2 ∧ List.length l2 = 1 * 5 ∧ (∀ v ∈ l2, Value.oneCell' v = true) ∧ x2.t6l + 1 ≤ maxLen ∧ (x2.t6l + 1) * 88 ≤ 140737488355328 ∧
      ∀ (c1 : Nat) (l3 : List Value), LstOk 5 (x2.t6l + 1) c1 l3 (l1 ++ l2) →
      I_waveportref07_Exact_0 (C_waveportref07_Exact_0.mk r2.re.neg r2.re.mag r2.im.neg r2.im.mag r2.under) (L_waveportref07_Exact_0.mk (x2.t6l + 1) c1 (IntKind.i64.wrap (x2.t7 + 1)) l3) V7 ∧ mu_waveportref07_Exact_0 (C_waveportref07_Exact_0.mk r2.re.neg r2.re.mag r2.im.neg r2.im.mag r2.under) (L_waveportref07_Exact_0.mk (x2.t6l + 1) c1 (IntKind.i64.wrap (x2.t7 + 1)) l3) V7 < mu_waveportref07_Exact_0 (C_waveportref07_Exact_0.mk r2.re.neg r2.re.mag r2.im.neg r2.im.mag r2.under) x2 V4) ∧
      (((p0 : Int) == 2) = false →
        ∀ (b2 : Nat) (V8 : View), View.le V5 V8 → View.Fin V8 → V8 b2 = some #[.bool r5.re.neg, r5.re.mag.v, .bool r5.im.neg, r5.im.mag.v, r5.under.v] →
      ∃ (l4 : List Value) (l5 : List Value), LstOk 5 x2.t6l x2.t6c x2.o19 l4 ∧ View.has V8 (some (Addr.mk b2 0 none)) l5 ∧ List.length l5 = 1 * 5 ∧ (∀ v ∈ l5, Value.oneCell' v = true) ∧ x2.t6l + 1 ≤ maxLen ∧ (x2.t6l + 1) * 88 ≤ 140737488355328 ∧
      ∀ (c2 : Nat) (l6 : List Value), LstOk 5 (x2.t6l + 1) c2 l6 (l4 ++ l5) →
      I_waveportref07_Exact_0 (C_waveportref07_Exact_0.mk r2.re.neg r2.re.mag r2.im.neg r2.im.mag r2.under) (L_waveportref07_Exact_0.mk (x2.t6l + 1) c2 (IntKind.i64.wrap (x2.t7 + 1)) l6) V8 ∧ mu_waveportref07_Exact_0 (C_waveportref07_Exact_0.mk r2.re.neg r2.re.mag r2.im.neg r2.im.mag r2.under) (L_waveportref07_Exact_0.mk (x2.t6l + 1) c2 (IntKind.i64.wrap (x2.t7 + 1)) l6) V8 < mu_waveportref07_Exact_0 (C_waveportref07_Exact_0.mk r2.re.neg r2.re.mag r2.im.neg r2.im.mag r2.under) x2 V4)) ∧
      ((decide ((x2.t7 : Int) < p0)) = false →
        ∀ (b3 : Nat) (V9 : View), View.le V4 V9 → (x2.o19 ≠ [] → V9 b3 = some (List.toArray x2.o19)) →
    R (.tuple #[(Sl.mk (some (Addr.mk b3 0 none)) x2.t6l x2.t6c).v, .int .i64 0]) V9))))) :
  CallV Try.prog 19 #[.int .i64 p0] V R :=
  calls_of_vc (Shp := Shp) hmixed Try.func19 (c := Try.f19.body.getD .skip) (args := [.int .i64 p0]) (by kernel_rfl)
    (.seq (.reg [⟨2, 2, false⟩, ⟨3, 2, false⟩]) (.seq (.seq (.reg [⟨9, 2, false⟩, ⟨10, 10, false⟩, ⟨11, 0, false⟩]) (.cond (.seq (.reg [⟨2, 2, false⟩, ⟨3, 2, false⟩]) .leaf) .leaf)) (.seq (.seq (.reg [⟨12, 2, false⟩, ⟨13, 0, false⟩]) (.cond (.seq (.reg [⟨2, 2, false⟩, ⟨3, 2, false⟩]) .leaf) .leaf)) (.seq (.reg [⟨15, 10, false⟩, ⟨14, 2, false⟩, ⟨16, 0, false⟩, ⟨17, 0, false⟩, ⟨4, 3, false⟩, ⟨4, 6, false⟩, ⟨5, 2, false⟩]) (.seq (.reg [⟨18, 10, false⟩, ⟨19, 3, false⟩, ⟨6, 2, false⟩]) (.seq (.seq (.reg [⟨7, 2, false⟩]) (.block (.loop C_waveportref07_Exact_0 L_waveportref07_Exact_0 (fun σ => C_waveportref07_Exact_0.mk (gBool (gOwn σ 4 0)) (Sl.mk (gSlA (gOwn σ 4 1)) (gSlL (gOwn σ 4 1)) (gSlC (gOwn σ 4 1))) (gBool (gOwn σ 4 2)) (Sl.mk (gSlA (gOwn σ 4 3)) (gSlL (gOwn σ 4 3)) (gSlC (gOwn σ 4 3))) (Sl.mk (gSlA (gOwn σ 4 4)) (gSlL (gOwn σ 4 4)) (gSlC (gOwn σ 4 4)))) (fun c x => { tm := spT 42 0 [(0, .val (.int .i64 p0)), (4, .own 4 0), (6, .les 19 x.t6l x.t6c), (7, .val (.int .i64 x.t7))], own := spO 42 0 [(4, ⟨77, .fixed [.val (.bool c.o4_0), .val (c.o4_1.v), .val (.bool c.o4_2), .val (c.o4_3.v), .val (c.o4_4.v)]⟩), (19, ⟨77, .list x.o19⟩)] }) I_waveportref07_Exact_0 mu_waveportref07_Exact_0 (.seq (.seq (.reg [⟨20, 2, false⟩, ⟨21, 2, false⟩, ⟨22, 0, false⟩]) (.cond .leaf .leaf)) (.seq (.block (.seq (.solid 19 (.draw [(0, ⟨25, 2, false⟩), (1, ⟨26, 2, false⟩), (2, ⟨27, 0, false⟩), (3, ⟨28, 7, false⟩), (4, ⟨19, 4, false⟩), (5, ⟨4, 4, false⟩), (7, ⟨8, 3, false⟩), (6, ⟨31, 10, false⟩), (8, ⟨8, 6, false⟩)] [0, 0, 2, 7, 15, 0, 63, 0, 255])) (.seq (.seq (.reg [⟨32, 2, false⟩, ⟨33, 0, false⟩]) (.cond (.reg [⟨8, 4, false⟩, ⟨4, 4, false⟩, ⟨36, 10, false⟩, ⟨8, 6, false⟩]) .leaf)) (.loose 19 (.reg [⟨37, 2, false⟩, ⟨8, 4, false⟩, ⟨39, 11, false⟩, ⟨19, 13, false⟩, ⟨6, 2, false⟩]))))) (.reg [⟨23, 2, false⟩, ⟨24, 0, false⟩, ⟨7, 2, false⟩])))))) (.seq (.reg [⟨41, 2, false⟩, ⟨2, 2, false⟩, ⟨3, 2, false⟩]) (.pub 19 .leaf))))))))
    (Eq.mpr (by kernel_rfl) (show CallV Try.prog 62 #[.int .i64 p0] V fun v V1 => ∃ r1 : Bool, v = .bool r1 ∧ -- waveportref07.Length
    ((!r1) = true →
      R (.tuple #[(Sl.mk none 0 0).v, .int .i64 4]) V1) ∧
    ((!r1) = false →
      ((decide ((p0 : Int) > 4)) = true →
      R (.tuple #[(Sl.mk none 0 0).v, .int .i64 5]) V1) ∧
    ((decide ((p0 : Int) > 4)) = false →
      CallV Try.prog 63 #[.int .i64 0, .int .i64 (-1), .int .i64 1] V1 fun v V2 => ∃ (r2 : NumV) (r3 : Int), v = .tuple #[r2.val, .int .i64 r3] ∧ -- waveportref01.New
    CallV Try.prog 64 #[.int .i64 1] V2 fun v V3 => ∃ r4 : NumV, v = r4.val ∧ -- waveportref01.Whole
    (∃ x1 : L_waveportref07_Exact_0, ((SV.val (.int .i64 p0) = SV.val (.int .i64 p0) ∧ SV.own 4 0 = SV.own 4 0 ∧ SV.les 19 1 1 = SV.les 19 x1.t6l x1.t6c ∧ SV.val (.int .i64 1) = SV.val (.int .i64 x1.t7) ∧ True) ∧ ((some (⟨77, .fixed [.val (.bool r2.re.neg), .val (r2.re.mag.v), .val (.bool r2.im.neg), .val (r2.im.mag.v), .val (r2.under.v)]⟩) : Option OB) = some (⟨77, .fixed [.val (.bool r2.re.neg), .val (r2.re.mag.v), .val (.bool r2.im.neg), .val (r2.im.mag.v), .val (r2.under.v)]⟩) ∧ (some (⟨77, .list ([.bool r4.re.neg, r4.re.mag.v, .bool r4.im.neg, r4.im.mag.v, r4.under.v] : List Value)⟩) : Option OB) = some (⟨77, .list x1.o19⟩) ∧ True)) ∧ I_waveportref07_Exact_0 (C_waveportref07_Exact_0.mk r2.re.neg r2.re.mag r2.im.neg r2.im.mag r2.under) x1 V3) ∧
    (∀ (x2 : L_waveportref07_Exact_0) (V4 : View), View.le V3 V4 → I_waveportref07_Exact_0 (C_waveportref07_Exact_0.mk r2.re.neg r2.re.mag r2.im.neg r2.im.mag r2.under) x2 V4 →
      ((decide ((x2.t7 : Int) < p0)) = true →
        (x2.o19 ≠ [] ∧ (True) ∧ ((True) ∧ True)) ∧
      ((0 : Int) ≤ (IntKind.i64.wrap (x2.t7 - 1)) ∧ ((IntKind.i64.wrap (x2.t7 - 1)) : Int) < (x2.t6l : Nat)) ∧
      ∃ x3 : NumV, List.take 5 (List.drop (0 + Int.toNat (IntKind.i64.wrap (x2.t7 - 1)) * 5) x2.o19) = (x3.val).cells.toList ∧
      CallV Try.prog 65 #[x3.val, r2.val] V4 fun v V5 => ∃ r5 : NumV, v = r5.val ∧ -- waveportref01.Mul
      (((p0 : Int) == 2) = true →
        CallV Try.prog 65 #[r5.val, r2.val] V5 fun v V6 => ∃ r6 : NumV, v = r6.val ∧ -- waveportref01.Mul
        ∀ (b1 : Nat) (V7 : View), View.le V6 V7 → View.Fin V7 → V7 b1 = some #[.bool r6.re.neg, r6.re.mag.v, .bool r6.im.neg, r6.im.mag.v, r6.under.v] →
      ∃ (l1 : List Value) (l2 : List Value), LstOk 5 x2.t6l x2.t6c x2.o19 l1 ∧ View.has V7 (some (Addr.mk b1 0 none)) l2 ∧ List.length l2 = 1 * 5 ∧ (∀ v ∈ l2, Value.oneCell' v = true) ∧ x2.t6l + 1 ≤ maxLen ∧ (x2.t6l + 1) * 88 ≤ 140737488355328 ∧
      ∀ (c1 : Nat) (l3 : List Value), LstOk 5 (x2.t6l + 1) c1 l3 (l1 ++ l2) →
      ∃ x4 : L_waveportref07_Exact_0, ((SV.val (.int .i64 p0) = SV.val (.int .i64 p0) ∧ SV.own 4 0 = SV.own 4 0 ∧ SV.les 19 (x2.t6l + 1) c1 = SV.les 19 x4.t6l x4.t6c ∧ SV.val (.int .i64 (IntKind.i64.wrap (x2.t7 + 1))) = SV.val (.int .i64 x4.t7) ∧ True) ∧ ((some (⟨77, .fixed [.val (.bool r2.re.neg), .val (r2.re.mag.v), .val (.bool r2.im.neg), .val (r2.im.mag.v), .val (r2.under.v)]⟩) : Option OB) = some (⟨77, .fixed [.val (.bool r2.re.neg), .val (r2.re.mag.v), .val (.bool r2.im.neg), .val (r2.im.mag.v), .val (r2.under.v)]⟩) ∧ (some (⟨77, .list l3⟩) : Option OB) = some (⟨77, .list x4.o19⟩) ∧ True)) ∧ I_waveportref07_Exact_0 (C_waveportref07_Exact_0.mk r2.re.neg r2.re.mag r2.im.neg r2.im.mag r2.under) x4 V7 ∧ mu_waveportref07_Exact_0 (C_waveportref07_Exact_0.mk r2.re.neg r2.re.mag r2.im.neg r2.im.mag r2.under) x4 V7 < mu_waveportref07_Exact_0 (C_waveportref07_Exact_0.mk r2.re.neg r2.re.mag r2.im.neg r2.im.mag r2.under) x2 V4) ∧
      (((p0 : Int) == 2) = false →
        ∀ (b2 : Nat) (V8 : View), View.le V5 V8 → View.Fin V8 → V8 b2 = some #[.bool r5.re.neg, r5.re.mag.v, .bool r5.im.neg, r5.im.mag.v, r5.under.v] →
      ∃ (l4 : List Value) (l5 : List Value), LstOk 5 x2.t6l x2.t6c x2.o19 l4 ∧ View.has V8 (some (Addr.mk b2 0 none)) l5 ∧ List.length l5 = 1 * 5 ∧ (∀ v ∈ l5, Value.oneCell' v = true) ∧ x2.t6l + 1 ≤ maxLen ∧ (x2.t6l + 1) * 88 ≤ 140737488355328 ∧
      ∀ (c2 : Nat) (l6 : List Value), LstOk 5 (x2.t6l + 1) c2 l6 (l4 ++ l5) →
      ∃ x5 : L_waveportref07_Exact_0, ((SV.val (.int .i64 p0) = SV.val (.int .i64 p0) ∧ SV.own 4 0 = SV.own 4 0 ∧ SV.les 19 (x2.t6l + 1) c2 = SV.les 19 x5.t6l x5.t6c ∧ SV.val (.int .i64 (IntKind.i64.wrap (x2.t7 + 1))) = SV.val (.int .i64 x5.t7) ∧ True) ∧ ((some (⟨77, .fixed [.val (.bool r2.re.neg), .val (r2.re.mag.v), .val (.bool r2.im.neg), .val (r2.im.mag.v), .val (r2.under.v)]⟩) : Option OB) = some (⟨77, .fixed [.val (.bool r2.re.neg), .val (r2.re.mag.v), .val (.bool r2.im.neg), .val (r2.im.mag.v), .val (r2.under.v)]⟩) ∧ (some (⟨77, .list l6⟩) : Option OB) = some (⟨77, .list x5.o19⟩) ∧ True)) ∧ I_waveportref07_Exact_0 (C_waveportref07_Exact_0.mk r2.re.neg r2.re.mag r2.im.neg r2.im.mag r2.under) x5 V8 ∧ mu_waveportref07_Exact_0 (C_waveportref07_Exact_0.mk r2.re.neg r2.re.mag r2.im.neg r2.im.mag r2.under) x5 V8 < mu_waveportref07_Exact_0 (C_waveportref07_Exact_0.mk r2.re.neg r2.re.mag r2.im.neg r2.im.mag r2.under) x2 V4)) ∧
      ((decide ((x2.t7 : Int) < p0)) = false →
        ∀ (b3 : Nat) (V9 : View), View.le V4 V9 → (x2.o19 ≠ [] → V9 b3 = some (List.toArray x2.o19)) →
    R (.tuple #[(Sl.mk (some (Addr.mk b3 0 none)) x2.t6l x2.t6c).v, .int .i64 0]) V9)))) from (CallV.mono h (fun _ _ _ ⟨r1, h42, h41⟩ => ⟨r1, h42, ⟨fun h40 => (h41.1 h40), fun h40 => ⟨fun h39 => ((h41.2 h40).1 h39), fun h39 => (CallV.mono ((h41.2 h40).2 h39) (fun _ _ _ ⟨r2, r3, h38, h37⟩ => ⟨r2, r3, h38, (CallV.mono h37 (fun _ _ _ ⟨r4, h36, h35⟩ => ⟨r4, h36, ⟨⟨(L_waveportref07_Exact_0.mk 1 1 1 ([.bool r4.re.neg, r4.re.mag.v, .bool r4.im.neg, r4.im.mag.v, r4.under.v] : List Value)), ⟨⟨rfl, rfl, rfl, rfl, trivial⟩, ⟨rfl, rfl, trivial⟩⟩, h35.1⟩, fun x2 V4 h33 h34 => ⟨fun h32 => ⟨((h35.2 x2 V4 h33 h34).1 h32).1, ⟨((h35.2 x2 V4 h33 h34).1 h32).2.1, (match ((h35.2 x2 V4 h33 h34).1 h32).2.2 with | ⟨x3, h29, h28⟩ => ⟨x3, h29, (CallV.mono h28 (fun _ _ _ ⟨r5, h27, h26⟩ => ⟨r5, h27, ⟨fun h25 => (CallV.mono (h26.1 h25) (fun _ _ _ ⟨r6, h13, h12⟩ => ⟨r6, h13, (fun b1 V7 h9 h10 h11 => (match (h12 b1 V7 h9 h10 h11) with | ⟨l1, l2, h3, h4, h5, h6, h7, h8, h2⟩ => ⟨l1, l2, h3, h4, h5, h6, h7, h8, (fun c1 l3 h1 => ⟨(L_waveportref07_Exact_0.mk (x2.t6l + 1) c1 (IntKind.i64.wrap (x2.t7 + 1)) l3), ⟨⟨rfl, rfl, rfl, rfl, trivial⟩, ⟨rfl, rfl, trivial⟩⟩, (h2 c1 l3 h1).1, (h2 c1 l3 h1).2⟩)⟩))⟩)), fun h25 => (fun b2 V8 h22 h23 h24 => (match ((h26.2 h25) b2 V8 h22 h23 h24) with | ⟨l4, l5, h16, h17, h18, h19, h20, h21, h15⟩ => ⟨l4, l5, h16, h17, h18, h19, h20, h21, (fun c2 l6 h14 => ⟨(L_waveportref07_Exact_0.mk (x2.t6l + 1) c2 (IntKind.i64.wrap (x2.t7 + 1)) l6), ⟨⟨rfl, rfl, rfl, rfl, trivial⟩, ⟨rfl, rfl, trivial⟩⟩, (h15 c2 l6 h14).1, (h15 c2 l6 h14).2⟩)⟩))⟩⟩))⟩)⟩⟩, fun h32 => (fun b3 V9 h30 h31 => (((h35.2 x2 V4 h33 h34).2 h32) b3 V9 h30 h31))⟩⟩⟩))⟩))⟩⟩⟩))))

structure L_waveportref07_Window_0 where
  u : Unit
structure L_waveportref07_Window_1 where
  u : Unit
structure L_waveportref07_Window_2 where
  t7 : Int
  o27 : List Value
/-- waveport/waveportref07.Window -/
theorem waveportref07_Window_vc (p0 : Int) (p1 : Int) (V : View) (R : Value → View → Prop) (I_waveportref07_Window_0 : Unit → L_waveportref07_Window_0 → View → Prop) (I_waveportref07_Window_1 : Unit → L_waveportref07_Window_1 → View → Prop) (I_waveportref07_Window_2 : Unit → L_waveportref07_Window_2 → View → Prop) (mu_waveportref07_Window_2 : Unit → L_waveportref07_Window_2 → View → Nat)
  (h :
    (((decide ((p1 : Int) < 1)) = true →
      (true = true →
        R (.tuple #[(Sl.mk none 0 0).v, .int .i64 4]) V) ∧
      (true = false →
        I_waveportref07_Window_0 () (L_waveportref07_Window_0.mk ()) V)) ∧
      ((decide ((p1 : Int) < 1)) = false →
      ((decide ((p1 : Int) > 64)) = true →
        R (.tuple #[(Sl.mk none 0 0).v, .int .i64 4]) V) ∧
      ((decide ((p1 : Int) > 64)) = false →
        I_waveportref07_Window_0 () (L_waveportref07_Window_0.mk ()) V))) ∧
    (∀ (x1 : L_waveportref07_Window_0) (V1 : View), View.le V V1 → I_waveportref07_Window_0 () x1 V1 →
      ((((p0 : Int) != 0) = true →
        (((p0 : Int) != 1) = true →
        (((p0 : Int) != 2) = true →
          R (.tuple #[(Sl.mk none 0 0).v, .int .i64 1]) V1) ∧
        (((p0 : Int) != 2) = false →
          I_waveportref07_Window_1 () (L_waveportref07_Window_1.mk ()) V1)) ∧
        (((p0 : Int) != 1) = false →
        (false = true →
          R (.tuple #[(Sl.mk none 0 0).v, .int .i64 1]) V1) ∧
        (false = false →
          I_waveportref07_Window_1 () (L_waveportref07_Window_1.mk ()) V1))) ∧
        (((p0 : Int) != 0) = false →
        (false = true →
        (((p0 : Int) != 2) = true →
          R (.tuple #[(Sl.mk none 0 0).v, .int .i64 1]) V1) ∧
        (((p0 : Int) != 2) = false →
          I_waveportref07_Window_1 () (L_waveportref07_Window_1.mk ()) V1)) ∧
        (false = false →
        (false = true →
          R (.tuple #[(Sl.mk none 0 0).v, .int .i64 1]) V1) ∧
        (false = false →
          I_waveportref07_Window_1 () (L_waveportref07_Window_1.mk ()) V1)))) ∧
      (∀ (x4 : L_waveportref07_Window_1) (V2 : View), View.le V1 V2 → I_waveportref07_Window_1 () x4 V2 →
        ((0 : Int) ≤ p1 ∧ (p1 : Int) ≤ p1 ∧ (88 : Int) * p1 ≤ 281474976710656 ∧ (p1 : Int) ≤ 9223372036854775807) ∧
        I_waveportref07_Window_2 () (L_waveportref07_Window_2.mk 0 ((List.replicate (Int.toNat p1) [Value.bool false, Value.slice none 0 0, Value.bool false, Value.slice none 0 0, Value.slice none 0 0]).flatten)) V2 ∧
        (∀ (x10 : L_waveportref07_Window_2) (V3 : View), View.le V2 V3 → I_waveportref07_Window_2 () x10 V3 →
          ((decide ((x10.t7 : Int) < p1)) = true →
            CallV Try.prog 63 #[.int .i64 (IntKind.i64.wrap ((IntKind.i64.wrap ((IntKind.i64.wrap (2 * x10.t7)) - p1)) + 1)), .int .i64 0, .int .i64 (IntKind.i64.wrap (p1 + 1))] V3 fun v V4 => ∃ (r1 : NumV) (r2 : Int), v = .tuple #[r1.val, .int .i64 r2] ∧ -- waveportref01.New
          CallV Try.prog 68 #[r1.val] V4 fun v V5 => ∃ r3 : Int, v = .int .i64 r3 ∧ -- waveportref01.Sign
          ((decide ((r3 : Int) < 0)) = true →
            CallV Try.prog 69 #[r1.val] V5 fun v V6 => ∃ r4 : NumV, v = r4.val ∧ -- waveportref01.Neg
            (((p0 : Int) == 0) = true →
            CallV Try.prog 64 #[.int .i64 1] V6 fun v V7 => ∃ r5 : NumV, v = r5.val ∧ -- waveportref01.Whole
            ((0 : Int) ≤ x10.t7 ∧ (x10.t7 : Int) < (Int.toNat p1 : Nat)) ∧
            0 + Int.toNat x10.t7 * 5 + 5 ≤ List.length x10.o27 ∧
            I_waveportref07_Window_2 () (L_waveportref07_Window_2.mk (IntKind.i64.wrap (x10.t7 + 1)) (setL x10.o27 (0 + Int.toNat x10.t7 * 5) [.bool r5.re.neg, r5.re.mag.v, .bool r5.im.neg, r5.im.mag.v, r5.under.v])) V7 ∧ mu_waveportref07_Window_2 () (L_waveportref07_Window_2.mk (IntKind.i64.wrap (x10.t7 + 1)) (setL x10.o27 (0 + Int.toNat x10.t7 * 5) [.bool r5.re.neg, r5.re.mag.v, .bool r5.im.neg, r5.im.mag.v, r5.under.v])) V7 < mu_waveportref07_Window_2 () x10 V3) ∧
          (((p0 : Int) == 0) = false →
            (((p0 : Int) == 1) = true →
              CallV Try.prog 64 #[.int .i64 1] V6 fun v V8 => ∃ r6 : NumV, v = r6.val ∧ -- waveportref01.Whole
              CallV Try.prog 70 #[r6.val, r4.val] V8 fun v V9 => ∃ r7 : NumV, v = r7.val ∧ -- waveportref01.Sub
              ((0 : Int) ≤ x10.t7 ∧ (x10.t7 : Int) < (Int.toNat p1 : Nat)) ∧
              0 + Int.toNat x10.t7 * 5 + 5 ≤ List.length x10.o27 ∧
              I_waveportref07_Window_2 () (L_waveportref07_Window_2.mk (IntKind.i64.wrap (x10.t7 + 1)) (setL x10.o27 (0 + Int.toNat x10.t7 * 5) [.bool r7.re.neg, r7.re.mag.v, .bool r7.im.neg, r7.im.mag.v, r7.under.v])) V9 ∧ mu_waveportref07_Window_2 () (L_waveportref07_Window_2.mk (IntKind.i64.wrap (x10.t7 + 1)) (setL x10.o27 (0 + Int.toNat x10.t7 * 5) [.bool r7.re.neg, r7.re.mag.v, .bool r7.im.neg, r7.im.mag.v, r7.under.v])) V9 < mu_waveportref07_Window_2 () x10 V3) ∧
            (((p0 : Int) == 1) = false →
              CallV Try.prog 64 #[.int .i64 1] V6 fun v V10 => ∃ r8 : NumV, v = r8.val ∧ -- waveportref01.Whole
              CallV Try.prog 65 #[r4.val, r4.val] V10 fun v V11 => ∃ r9 : NumV, v = r9.val ∧ -- waveportref01.Mul
              CallV Try.prog 70 #[r8.val, r9.val] V11 fun v V12 => ∃ r10 : NumV, v = r10.val ∧ -- waveportref01.Sub
              ((0 : Int) ≤ x10.t7 ∧ (x10.t7 : Int) < (Int.toNat p1 : Nat)) ∧
              0 + Int.toNat x10.t7 * 5 + 5 ≤ List.length x10.o27 ∧
              I_waveportref07_Window_2 () (L_waveportref07_Window_2.mk (IntKind.i64.wrap (x10.t7 + 1)) (setL x10.o27 (0 + Int.toNat x10.t7 * 5) [.bool r10.re.neg, r10.re.mag.v, .bool r10.im.neg, r10.im.mag.v, r10.under.v])) V12 ∧ mu_waveportref07_Window_2 () (L_waveportref07_Window_2.mk (IntKind.i64.wrap (x10.t7 + 1)) (setL x10.o27 (0 + Int.toNat x10.t7 * 5) [.bool r10.re.neg, r10.re.mag.v, .bool r10.im.neg, r10.im.mag.v, r10.under.v])) V12 < mu_waveportref07_Window_2 () x10 V3))) ∧
          ((decide ((r3 : Int) < 0)) = false →
            (((p0 : Int) == 0) = true →
            CallV Try.prog 64 #[.int .i64 1] V5 fun v V13 => ∃ r11 : NumV, v = r11.val ∧ -- waveportref01.Whole
            ((0 : Int) ≤ x10.t7 ∧ (x10.t7 : Int) < (Int.toNat p1 : Nat)) ∧
            0 + Int.toNat x10.t7 * 5 + 5 ≤ List.length x10.o27 ∧
            I_waveportref07_Window_2 () (L_waveportref07_Window_2.mk (IntKind.i64.wrap (x10.t7 + 1)) (setL x10.o27 (0 + Int.toNat x10.t7 * 5) [.bool r11.re.neg, r11.re.mag.v, .bool r11.im.neg, r11.im.mag.v, r11.under.v])) V13 ∧ mu_waveportref07_Window_2 () (L_waveportref07_Window_2.mk (IntKind.i64.wrap (x10.t7 + 1)) (setL x10.o27 (0 + Int.toNat x10.t7 * 5) [.bool r11.re.neg, r11.re.mag.v, .bool r11.im.neg, r11.im.mag.v, r11.under.v])) V13 < mu_waveportref07_Window_2 () x10 V3) ∧
          (((p0 : Int) == 0) = false →
            (((p0 : Int) == 1) = true →
              CallV Try.prog 64 #[.int .i64 1] V5 fun v V14 => ∃ r12 : NumV, v = r12.val ∧ -- waveportref01.Whole
              CallV Try.prog 70 #[r12.val, r1.val] V14 fun v V15 => ∃ r13 : NumV, v = r13.val ∧ -- waveportref01.Sub
              ((0 : Int) ≤ x10.t7 ∧ (x10.t7 : Int) < (Int.toNat p1 : Nat)) ∧
              0 + Int.toNat x10.t7 * 5 + 5 ≤ List.length x10.o27 ∧
              I_waveportref07_Window_2 () (L_waveportref07_Window_2.mk (IntKind.i64.wrap (x10.t7 + 1)) (setL x10.o27 (0 + Int.toNat x10.t7 * 5) [.bool r13.re.neg, r13.re.mag.v, .bool r13.im.neg, r13.im.mag.v, r13.under.v])) V15 ∧ mu_waveportref07_Window_2 () (L_waveportref07_Window_2.mk (IntKind.i64.wrap (x10.t7 + 1)) (setL x10.o27 (0 + Int.toNat x10.t7 * 5) [.bool r13.re.neg, r13.re.mag.v, .bool r13.im.neg, r13.im.mag.v, r13.under.v])) V15 < mu_waveportref07_Window_2 () x10 V3) ∧
            (((p0 : Int) == 1) = false →
              CallV Try.prog 64 #[.int .i64 1] V5 fun v V16 => ∃ r14 : NumV, v = r14.val ∧ -- waveportref01.Whole
              CallV Try.prog 65 #[r1.val, r1.val] V16 fun v V17 => ∃ r15 : NumV, v = r15.val ∧ -- waveportref01.Mul
              CallV Try.prog 70 #[r14.val, r15.val] V17 fun v V18 => ∃ r16 : NumV, v = r16.val ∧ -- waveportref01.Sub
              ((0 : Int) ≤ x10.t7 ∧ (x10.t7 : Int) < (Int.toNat p1 : Nat)) ∧
              0 + Int.toNat x10.t7 * 5 + 5 ≤ List.length x10.o27 ∧
              I_waveportref07_Window_2 () (L_waveportref07_Window_2.mk (IntKind.i64.wrap (x10.t7 + 1)) (setL x10.o27 (0 + Int.toNat x10.t7 * 5) [.bool r16.re.neg, r16.re.mag.v, .bool r16.im.neg, r16.im.mag.v, r16.under.v])) V18 ∧ mu_waveportref07_Window_2 () (L_waveportref07_Window_2.mk (IntKind.i64.wrap (x10.t7 + 1)) (setL x10.o27 (0 + Int.toNat x10.t7 * 5) [.bool r16.re.neg, r16.re.mag.v, .bool r16.im.neg, r16.im.mag.v, r16.under.v])) V18 < mu_waveportref07_Window_2 () x10 V3)))) ∧
          ((decide ((x10.t7 : Int) < p1)) = false →
            ∀ (b1 : Nat) (V19 : View), View.le V3 V19 → V19 b1 = some (List.toArray x10.o27) →
        R (.tuple #[(Sl.mk (some (Addr.mk b1 0 none)) (Int.toNat p1) (Int.toNat p1)).v, .int .i64 0]) V19))))) :
  CallV Try.prog 21 #[.int .i64 p0, .int .i64 p1] V R :=
  calls_of_vc (Shp := Shp) hmixed Try.func21 (c := Try.f21.body.getD .skip) (args := [.int .i64 p0, .int .i64 p1]) (by kernel_rfl)
    (.seq (.reg [⟨4, 2, false⟩, ⟨5, 2, false⟩]) (.cut Unit L_waveportref07_Window_0 (fun _ => ()) (fun c x => { tm := spT 73 0 [(0, .val (.int .i64 p0)), (1, .val (.int .i64 p1))], own := spO 73 0 [] }) I_waveportref07_Window_0 (.seq (.reg [⟨10, 2, false⟩, ⟨11, 0, false⟩, ⟨12, 2, true⟩, ⟨13, 2, false⟩, ⟨14, 0, false⟩, ⟨15, 2, false⟩]) (.cond (.seq (.reg [⟨4, 2, false⟩, ⟨5, 2, false⟩]) .leaf) .leaf)) (.cut Unit L_waveportref07_Window_1 (fun _ => ()) (fun c x => { tm := spT 73 0 [(0, .val (.int .i64 p0)), (1, .val (.int .i64 p1))], own := spO 73 0 [] }) I_waveportref07_Window_1 (.seq (.reg [⟨16, 2, false⟩, ⟨17, 0, false⟩, ⟨18, 2, true⟩, ⟨19, 2, false⟩, ⟨20, 0, false⟩, ⟨21, 2, false⟩, ⟨22, 2, true⟩, ⟨23, 2, false⟩, ⟨24, 0, false⟩, ⟨25, 2, false⟩]) (.cond (.seq (.reg [⟨4, 2, false⟩, ⟨5, 2, false⟩]) .leaf) .leaf)) (.seq (.reg [⟨26, 2, false⟩, ⟨27, 3, false⟩, ⟨6, 2, false⟩]) (.seq (.seq (.reg [⟨7, 2, false⟩]) (.block (.loop Unit L_waveportref07_Window_2 (fun _ => ()) (fun c x => { tm := spT 73 0 [(0, .val (.int .i64 p0)), (1, .val (.int .i64 p1)), (6, .osl 27 0 (Int.toNat p1) (Int.toNat p1)), (7, .val (.int .i64 x.t7))], own := spO 73 0 [(27, ⟨77, .dyn x.o27⟩)] }) I_waveportref07_Window_2 mu_waveportref07_Window_2 (.seq (.seq (.reg [⟨28, 2, false⟩, ⟨29, 2, false⟩, ⟨30, 0, false⟩]) (.cond .leaf .leaf)) (.seq (.block (.seq (.reg [⟨34, 2, false⟩, ⟨35, 0, false⟩, ⟨36, 2, false⟩, ⟨37, 0, false⟩, ⟨38, 0, false⟩, ⟨39, 2, false⟩, ⟨40, 0, false⟩, ⟨41, 10, false⟩, ⟨33, 2, false⟩, ⟨42, 0, false⟩, ⟨43, 0, false⟩, ⟨8, 3, false⟩, ⟨8, 6, false⟩, ⟨9, 2, false⟩]) (.seq (.seq (.reg [⟨8, 4, false⟩, ⟨45, 10, false⟩, ⟨46, 0, false⟩]) (.cond (.reg [⟨8, 4, false⟩, ⟨48, 10, false⟩, ⟨8, 6, false⟩]) .leaf)) (.seq (.reg [⟨49, 2, false⟩]) (.block (.seq (.reg [⟨59, 0, false⟩, ⟨58, 2, false⟩]) (.cond (.reg [⟨60, 2, false⟩, ⟨61, 2, false⟩, ⟨62, 10, false⟩, ⟨63, 7, false⟩, ⟨27, 6, false⟩]) (.seq (.reg [⟨65, 0, false⟩, ⟨64, 2, false⟩]) (.cond (.draw [(0, ⟨66, 2, false⟩), (1, ⟨67, 2, false⟩), (3, ⟨8, 4, false⟩), (2, ⟨68, 10, false⟩), (4, ⟨70, 10, false⟩), (5, ⟨71, 7, false⟩), (6, ⟨27, 6, false⟩)] [0, 0, 0, 0, 12, 31, 63]) (.draw [(0, ⟨50, 2, false⟩), (1, ⟨51, 2, false⟩), (3, ⟨8, 4, false⟩), (4, ⟨8, 4, false⟩), (2, ⟨52, 10, false⟩), (5, ⟨55, 10, false⟩), (6, ⟨56, 10, false⟩), (7, ⟨57, 7, false⟩), (8, ⟨27, 6, false⟩)] [0, 0, 0, 0, 0, 28, 60, 127, 255])))))))))) (.reg [⟨31, 2, false⟩, ⟨32, 0, false⟩, ⟨7, 2, false⟩])))))) (.seq (.reg [⟨72, 2, false⟩, ⟨4, 2, false⟩, ⟨5, 2, false⟩]) (.pub 27 .leaf)))))))
    (Eq.mpr (by kernel_rfl) (show (((decide ((p1 : Int) < 1)) = true →
      (true = true →
        R (.tuple #[(Sl.mk none 0 0).v, .int .i64 4]) V) ∧
      (true = false →
        ∃ x2 : L_waveportref07_Window_0, ((SV.val (.int .i64 p0) = SV.val (.int .i64 p0) ∧ SV.val (.int .i64 p1) = SV.val (.int .i64 p1) ∧ True) ∧ (True)) ∧ I_waveportref07_Window_0 () x2 V)) ∧
      ((decide ((p1 : Int) < 1)) = false →
      ((decide ((p1 : Int) > 64)) = true →
        R (.tuple #[(Sl.mk none 0 0).v, .int .i64 4]) V) ∧
      ((decide ((p1 : Int) > 64)) = false →
        ∃ x3 : L_waveportref07_Window_0, ((SV.val (.int .i64 p0) = SV.val (.int .i64 p0) ∧ SV.val (.int .i64 p1) = SV.val (.int .i64 p1) ∧ True) ∧ (True)) ∧ I_waveportref07_Window_0 () x3 V))) ∧
    (∀ (x1 : L_waveportref07_Window_0) (V1 : View), View.le V V1 → I_waveportref07_Window_0 () x1 V1 →
      ((((p0 : Int) != 0) = true →
        (((p0 : Int) != 1) = true →
        (((p0 : Int) != 2) = true →
          R (.tuple #[(Sl.mk none 0 0).v, .int .i64 1]) V1) ∧
        (((p0 : Int) != 2) = false →
          ∃ x5 : L_waveportref07_Window_1, ((SV.val (.int .i64 p0) = SV.val (.int .i64 p0) ∧ SV.val (.int .i64 p1) = SV.val (.int .i64 p1) ∧ True) ∧ (True)) ∧ I_waveportref07_Window_1 () x5 V1)) ∧
        (((p0 : Int) != 1) = false →
        (false = true →
          R (.tuple #[(Sl.mk none 0 0).v, .int .i64 1]) V1) ∧
        (false = false →
          ∃ x6 : L_waveportref07_Window_1, ((SV.val (.int .i64 p0) = SV.val (.int .i64 p0) ∧ SV.val (.int .i64 p1) = SV.val (.int .i64 p1) ∧ True) ∧ (True)) ∧ I_waveportref07_Window_1 () x6 V1))) ∧
        (((p0 : Int) != 0) = false →
        (false = true →
        (((p0 : Int) != 2) = true →
          R (.tuple #[(Sl.mk none 0 0).v, .int .i64 1]) V1) ∧
        (((p0 : Int) != 2) = false →
          ∃ x7 : L_waveportref07_Window_1, ((SV.val (.int .i64 p0) = SV.val (.int .i64 p0) ∧ SV.val (.int .i64 p1) = SV.val (.int .i64 p1) ∧ True) ∧ (True)) ∧ I_waveportref07_Window_1 () x7 V1)) ∧
        (false = false →
        (false = true →
          R (.tuple #[(Sl.mk none 0 0).v, .int .i64 1]) V1) ∧
        (false = false →
          ∃ x8 : L_waveportref07_Window_1, ((SV.val (.int .i64 p0) = SV.val (.int .i64 p0) ∧ SV.val (.int .i64 p1) = SV.val (.int .i64 p1) ∧ True) ∧ (True)) ∧ I_waveportref07_Window_1 () x8 V1)))) ∧
      (∀ (x4 : L_waveportref07_Window_1) (V2 : View), View.le V1 V2 → I_waveportref07_Window_1 () x4 V2 →
        ((0 : Int) ≤ p1 ∧ (p1 : Int) ≤ p1 ∧ (88 : Int) * p1 ≤ 281474976710656 ∧ (p1 : Int) ≤ 9223372036854775807) ∧
        (∃ x9 : L_waveportref07_Window_2, ((SV.val (.int .i64 p0) = SV.val (.int .i64 p0) ∧ SV.val (.int .i64 p1) = SV.val (.int .i64 p1) ∧ SV.osl 27 0 (Int.toNat p1) (Int.toNat p1) = SV.osl 27 0 (Int.toNat p1) (Int.toNat p1) ∧ SV.val (.int .i64 0) = SV.val (.int .i64 x9.t7) ∧ True) ∧ ((some (⟨77, .dyn ((List.replicate (Int.toNat p1) [Value.bool false, Value.slice none 0 0, Value.bool false, Value.slice none 0 0, Value.slice none 0 0]).flatten)⟩) : Option OB) = some (⟨77, .dyn x9.o27⟩) ∧ True)) ∧ I_waveportref07_Window_2 () x9 V2) ∧
        (∀ (x10 : L_waveportref07_Window_2) (V3 : View), View.le V2 V3 → I_waveportref07_Window_2 () x10 V3 →
          ((decide ((x10.t7 : Int) < p1)) = true →
            CallV Try.prog 63 #[.int .i64 (IntKind.i64.wrap ((IntKind.i64.wrap ((IntKind.i64.wrap (2 * x10.t7)) - p1)) + 1)), .int .i64 0, .int .i64 (IntKind.i64.wrap (p1 + 1))] V3 fun v V4 => ∃ (r1 : NumV) (r2 : Int), v = .tuple #[r1.val, .int .i64 r2] ∧ -- waveportref01.New
          CallV Try.prog 68 #[r1.val] V4 fun v V5 => ∃ r3 : Int, v = .int .i64 r3 ∧ -- waveportref01.Sign
          ((decide ((r3 : Int) < 0)) = true →
            CallV Try.prog 69 #[r1.val] V5 fun v V6 => ∃ r4 : NumV, v = r4.val ∧ -- waveportref01.Neg
            (((p0 : Int) == 0) = true →
            CallV Try.prog 64 #[.int .i64 1] V6 fun v V7 => ∃ r5 : NumV, v = r5.val ∧ -- waveportref01.Whole
            ((0 : Int) ≤ x10.t7 ∧ (x10.t7 : Int) < (Int.toNat p1 : Nat)) ∧
            0 + Int.toNat x10.t7 * 5 + 5 ≤ List.length x10.o27 ∧
            ∃ x11 : L_waveportref07_Window_2, ((SV.val (.int .i64 p0) = SV.val (.int .i64 p0) ∧ SV.val (.int .i64 p1) = SV.val (.int .i64 p1) ∧ SV.osl 27 0 (Int.toNat p1) (Int.toNat p1) = SV.osl 27 0 (Int.toNat p1) (Int.toNat p1) ∧ SV.val (.int .i64 (IntKind.i64.wrap (x10.t7 + 1))) = SV.val (.int .i64 x11.t7) ∧ True) ∧ ((some (⟨77, .dyn (setL x10.o27 (0 + Int.toNat x10.t7 * 5) [.bool r5.re.neg, r5.re.mag.v, .bool r5.im.neg, r5.im.mag.v, r5.under.v])⟩) : Option OB) = some (⟨77, .dyn x11.o27⟩) ∧ True)) ∧ I_waveportref07_Window_2 () x11 V7 ∧ mu_waveportref07_Window_2 () x11 V7 < mu_waveportref07_Window_2 () x10 V3) ∧
          (((p0 : Int) == 0) = false →
            (((p0 : Int) == 1) = true →
              CallV Try.prog 64 #[.int .i64 1] V6 fun v V8 => ∃ r6 : NumV, v = r6.val ∧ -- waveportref01.Whole
              CallV Try.prog 70 #[r6.val, r4.val] V8 fun v V9 => ∃ r7 : NumV, v = r7.val ∧ -- waveportref01.Sub
              ((0 : Int) ≤ x10.t7 ∧ (x10.t7 : Int) < (Int.toNat p1 : Nat)) ∧
              0 + Int.toNat x10.t7 * 5 + 5 ≤ List.length x10.o27 ∧
              ∃ x12 : L_waveportref07_Window_2, ((SV.val (.int .i64 p0) = SV.val (.int .i64 p0) ∧ SV.val (.int .i64 p1) = SV.val (.int .i64 p1) ∧ SV.osl 27 0 (Int.toNat p1) (Int.toNat p1) = SV.osl 27 0 (Int.toNat p1) (Int.toNat p1) ∧ SV.val (.int .i64 (IntKind.i64.wrap (x10.t7 + 1))) = SV.val (.int .i64 x12.t7) ∧ True) ∧ ((some (⟨77, .dyn (setL x10.o27 (0 + Int.toNat x10.t7 * 5) [.bool r7.re.neg, r7.re.mag.v, .bool r7.im.neg, r7.im.mag.v, r7.under.v])⟩) : Option OB) = some (⟨77, .dyn x12.o27⟩) ∧ True)) ∧ I_waveportref07_Window_2 () x12 V9 ∧ mu_waveportref07_Window_2 () x12 V9 < mu_waveportref07_Window_2 () x10 V3) ∧
            (((p0 : Int) == 1) = false →
              CallV Try.prog 64 #[.int .i64 1] V6 fun v V10 => ∃ r8 : NumV, v = r8.val ∧ -- waveportref01.Whole
              CallV Try.prog 65 #[r4.val, r4.val] V10 fun v V11 => ∃ r9 : NumV, v = r9.val ∧ -- waveportref01.Mul
              CallV Try.prog 70 #[r8.val, r9.val] V11 fun v V12 => ∃ r10 : NumV, v = r10.val ∧ -- waveportref01.Sub
              ((0 : Int) ≤ x10.t7 ∧ (x10.t7 : Int) < (Int.toNat p1 : Nat)) ∧
              0 + Int.toNat x10.t7 * 5 + 5 ≤ List.length x10.o27 ∧
              ∃ x13 : L_waveportref07_Window_2, ((SV.val (.int .i64 p0) = SV.val (.int .i64 p0) ∧ SV.val (.int .i64 p1) = SV.val (.int .i64 p1) ∧ SV.osl 27 0 (Int.toNat p1) (Int.toNat p1) = SV.osl 27 0 (Int.toNat p1) (Int.toNat p1) ∧ SV.val (.int .i64 (IntKind.i64.wrap (x10.t7 + 1))) = SV.val (.int .i64 x13.t7) ∧ True) ∧ ((some (⟨77, .dyn (setL x10.o27 (0 + Int.toNat x10.t7 * 5) [.bool r10.re.neg, r10.re.mag.v, .bool r10.im.neg, r10.im.mag.v, r10.under.v])⟩) : Option OB) = some (⟨77, .dyn x13.o27⟩) ∧ True)) ∧ I_waveportref07_Window_2 () x13 V12 ∧ mu_waveportref07_Window_2 () x13 V12 < mu_waveportref07_Window_2 () x10 V3))) ∧
          ((decide ((r3 : Int) < 0)) = false →
            (((p0 : Int) == 0) = true →
            CallV Try.prog 64 #[.int .i64 1] V5 fun v V13 => ∃ r11 : NumV, v = r11.val ∧ -- waveportref01.Whole
            ((0 : Int) ≤ x10.t7 ∧ (x10.t7 : Int) < (Int.toNat p1 : Nat)) ∧
            0 + Int.toNat x10.t7 * 5 + 5 ≤ List.length x10.o27 ∧
            ∃ x14 : L_waveportref07_Window_2, ((SV.val (.int .i64 p0) = SV.val (.int .i64 p0) ∧ SV.val (.int .i64 p1) = SV.val (.int .i64 p1) ∧ SV.osl 27 0 (Int.toNat p1) (Int.toNat p1) = SV.osl 27 0 (Int.toNat p1) (Int.toNat p1) ∧ SV.val (.int .i64 (IntKind.i64.wrap (x10.t7 + 1))) = SV.val (.int .i64 x14.t7) ∧ True) ∧ ((some (⟨77, .dyn (setL x10.o27 (0 + Int.toNat x10.t7 * 5) [.bool r11.re.neg, r11.re.mag.v, .bool r11.im.neg, r11.im.mag.v, r11.under.v])⟩) : Option OB) = some (⟨77, .dyn x14.o27⟩) ∧ True)) ∧ I_waveportref07_Window_2 () x14 V13 ∧ mu_waveportref07_Window_2 () x14 V13 < mu_waveportref07_Window_2 () x10 V3) ∧
          (((p0 : Int) == 0) = false →
            (((p0 : Int) == 1) = true →
              CallV Try.prog 64 #[.int .i64 1] V5 fun v V14 => ∃ r12 : NumV, v = r12.val ∧ -- waveportref01.Whole
              CallV Try.prog 70 #[r12.val, r1.val] V14 fun v V15 => ∃ r13 : NumV, v = r13.val ∧ -- waveportref01.Sub
              ((0 : Int) ≤ x10.t7 ∧ (x10.t7 : Int) < (Int.toNat p1 : Nat)) ∧
              0 + Int.toNat x10.t7 * 5 + 5 ≤ List.length x10.o27 ∧
              ∃ x15 : L_waveportref07_Window_2, ((SV.val (.int .i64 p0) = SV.val (.int .i64 p0) ∧ SV.val (.int .i64 p1) = SV.val (.int .i64 p1) ∧ SV.osl 27 0 (Int.toNat p1) (Int.toNat p1) = SV.osl 27 0 (Int.toNat p1) (Int.toNat p1) ∧ SV.val (.int .i64 (IntKind.i64.wrap (x10.t7 + 1))) = SV.val (.int .i64 x15.t7) ∧ True) ∧ ((some (⟨77, .dyn (setL x10.o27 (0 + Int.toNat x10.t7 * 5) [.bool r13.re.neg, r13.re.mag.v, .bool r13.im.neg, r13.im.mag.v, r13.under.v])⟩) : Option OB) = some (⟨77, .dyn x15.o27⟩) ∧ True)) ∧ I_waveportref07_Window_2 () x15 V15 ∧ mu_waveportref07_Window_2 () x15 V15 < mu_waveportref07_Window_2 () x10 V3) ∧
            (((p0 : Int) == 1) = false →
              CallV Try.prog 64 #[.int .i64 1] V5 fun v V16 => ∃ r14 : NumV, v = r14.val ∧ -- waveportref01.Whole
              CallV Try.prog 65 #[r1.val, r1.val] V16 fun v V17 => ∃ r15 : NumV, v = r15.val ∧ -- waveportref01.Mul
              CallV Try.prog 70 #[r14.val, r15.val] V17 fun v V18 => ∃ r16 : NumV, v = r16.val ∧ -- waveportref01.Sub
              ((0 : Int) ≤ x10.t7 ∧ (x10.t7 : Int) < (Int.toNat p1 : Nat)) ∧
              0 + Int.toNat x10.t7 * 5 + 5 ≤ List.length x10.o27 ∧
              ∃ x16 : L_waveportref07_Window_2, ((SV.val (.int .i64 p0) = SV.val (.int .i64 p0) ∧ SV.val (.int .i64 p1) = SV.val (.int .i64 p1) ∧ SV.osl 27 0 (Int.toNat p1) (Int.toNat p1) = SV.osl 27 0 (Int.toNat p1) (Int.toNat p1) ∧ SV.val (.int .i64 (IntKind.i64.wrap (x10.t7 + 1))) = SV.val (.int .i64 x16.t7) ∧ True) ∧ ((some (⟨77, .dyn (setL x10.o27 (0 + Int.toNat x10.t7 * 5) [.bool r16.re.neg, r16.re.mag.v, .bool r16.im.neg, r16.im.mag.v, r16.under.v])⟩) : Option OB) = some (⟨77, .dyn x16.o27⟩) ∧ True)) ∧ I_waveportref07_Window_2 () x16 V18 ∧ mu_waveportref07_Window_2 () x16 V18 < mu_waveportref07_Window_2 () x10 V3)))) ∧
          ((decide ((x10.t7 : Int) < p1)) = false →
            ∀ (b1 : Nat) (V19 : View), View.le V3 V19 → V19 b1 = some (List.toArray x10.o27) →
        R (.tuple #[(Sl.mk (some (Addr.mk b1 0 none)) (Int.toNat p1) (Int.toNat p1)).v, .int .i64 0]) V19)))) from ⟨⟨fun h3 => ⟨fun h1 => ((h.1.1 h3).1 h1), fun h1 => ⟨(L_waveportref07_Window_0.mk ()), ⟨⟨rfl, rfl, trivial⟩, trivial⟩, ((h.1.1 h3).2 h1)⟩⟩, fun h3 => ⟨fun h2 => ((h.1.2 h3).1 h2), fun h2 => ⟨(L_waveportref07_Window_0.mk ()), ⟨⟨rfl, rfl, trivial⟩, trivial⟩, ((h.1.2 h3).2 h2)⟩⟩⟩, fun x1 V1 h53 h54 => ⟨⟨fun h10 => ⟨fun h6 => ⟨fun h4 => ((((h.2 x1 V1 h53 h54).1.1 h10).1 h6).1 h4), fun h4 => ⟨(L_waveportref07_Window_1.mk ()), ⟨⟨rfl, rfl, trivial⟩, trivial⟩, ((((h.2 x1 V1 h53 h54).1.1 h10).1 h6).2 h4)⟩⟩, fun h6 => ⟨fun h5 => ((((h.2 x1 V1 h53 h54).1.1 h10).2 h6).1 h5), fun h5 => ⟨(L_waveportref07_Window_1.mk ()), ⟨⟨rfl, rfl, trivial⟩, trivial⟩, ((((h.2 x1 V1 h53 h54).1.1 h10).2 h6).2 h5)⟩⟩⟩, fun h10 => ⟨fun h9 => ⟨fun h7 => ((((h.2 x1 V1 h53 h54).1.2 h10).1 h9).1 h7), fun h7 => ⟨(L_waveportref07_Window_1.mk ()), ⟨⟨rfl, rfl, trivial⟩, trivial⟩, ((((h.2 x1 V1 h53 h54).1.2 h10).1 h9).2 h7)⟩⟩, fun h9 => ⟨fun h8 => ((((h.2 x1 V1 h53 h54).1.2 h10).2 h9).1 h8), fun h8 => ⟨(L_waveportref07_Window_1.mk ()), ⟨⟨rfl, rfl, trivial⟩, trivial⟩, ((((h.2 x1 V1 h53 h54).1.2 h10).2 h9).2 h8)⟩⟩⟩⟩, fun x4 V2 h51 h52 => ⟨((h.2 x1 V1 h53 h54).2 x4 V2 h51 h52).1, ⟨⟨(L_waveportref07_Window_2.mk 0 ((List.replicate (Int.toNat p1) [Value.bool false, Value.slice none 0 0, Value.bool false, Value.slice none 0 0, Value.slice none 0 0]).flatten)), ⟨⟨rfl, rfl, rfl, rfl, trivial⟩, ⟨rfl, trivial⟩⟩, ((h.2 x1 V1 h53 h54).2 x4 V2 h51 h52).2.1⟩, fun x10 V3 h49 h50 => ⟨fun h48 => (CallV.mono ((((h.2 x1 V1 h53 h54).2 x4 V2 h51 h52).2.2 x10 V3 h49 h50).1 h48) (fun _ _ _ ⟨r1, r2, h45, h44⟩ => ⟨r1, r2, h45, (CallV.mono h44 (fun _ _ _ ⟨r3, h43, h42⟩ => ⟨r3, h43, ⟨fun h41 => (CallV.mono (h42.1 h41) (fun _ _ _ ⟨r4, h26, h25⟩ => ⟨r4, h26, ⟨fun h24 => (CallV.mono (h25.1 h24) (fun _ _ _ ⟨r5, h12, h11⟩ => ⟨r5, h12, ⟨h11.1, ⟨h11.2.1, ⟨(L_waveportref07_Window_2.mk (IntKind.i64.wrap (x10.t7 + 1)) (setL x10.o27 (0 + Int.toNat x10.t7 * 5) [.bool r5.re.neg, r5.re.mag.v, .bool r5.im.neg, r5.im.mag.v, r5.under.v])), ⟨⟨rfl, rfl, rfl, rfl, trivial⟩, ⟨rfl, trivial⟩⟩, h11.2.2.1, h11.2.2.2⟩⟩⟩⟩)), fun h24 => ⟨fun h23 => (CallV.mono ((h25.2 h24).1 h23) (fun _ _ _ ⟨r6, h16, h15⟩ => ⟨r6, h16, (CallV.mono h15 (fun _ _ _ ⟨r7, h14, h13⟩ => ⟨r7, h14, ⟨h13.1, ⟨h13.2.1, ⟨(L_waveportref07_Window_2.mk (IntKind.i64.wrap (x10.t7 + 1)) (setL x10.o27 (0 + Int.toNat x10.t7 * 5) [.bool r7.re.neg, r7.re.mag.v, .bool r7.im.neg, r7.im.mag.v, r7.under.v])), ⟨⟨rfl, rfl, rfl, rfl, trivial⟩, ⟨rfl, trivial⟩⟩, h13.2.2.1, h13.2.2.2⟩⟩⟩⟩))⟩)), fun h23 => (CallV.mono ((h25.2 h24).2 h23) (fun _ _ _ ⟨r8, h22, h21⟩ => ⟨r8, h22, (CallV.mono h21 (fun _ _ _ ⟨r9, h20, h19⟩ => ⟨r9, h20, (CallV.mono h19 (fun _ _ _ ⟨r10, h18, h17⟩ => ⟨r10, h18, ⟨h17.1, ⟨h17.2.1, ⟨(L_waveportref07_Window_2.mk (IntKind.i64.wrap (x10.t7 + 1)) (setL x10.o27 (0 + Int.toNat x10.t7 * 5) [.bool r10.re.neg, r10.re.mag.v, .bool r10.im.neg, r10.im.mag.v, r10.under.v])), ⟨⟨rfl, rfl, rfl, rfl, trivial⟩, ⟨rfl, trivial⟩⟩, h17.2.2.1, h17.2.2.2⟩⟩⟩⟩))⟩))⟩))⟩⟩⟩)), fun h41 => ⟨fun h40 => (CallV.mono ((h42.2 h41).1 h40) (fun _ _ _ ⟨r11, h28, h27⟩ => ⟨r11, h28, ⟨h27.1, ⟨h27.2.1, ⟨(L_waveportref07_Window_2.mk (IntKind.i64.wrap (x10.t7 + 1)) (setL x10.o27 (0 + Int.toNat x10.t7 * 5) [.bool r11.re.neg, r11.re.mag.v, .bool r11.im.neg, r11.im.mag.v, r11.under.v])), ⟨⟨rfl, rfl, rfl, rfl, trivial⟩, ⟨rfl, trivial⟩⟩, h27.2.2.1, h27.2.2.2⟩⟩⟩⟩)), fun h40 => ⟨fun h39 => (CallV.mono (((h42.2 h41).2 h40).1 h39) (fun _ _ _ ⟨r12, h32, h31⟩ => ⟨r12, h32, (CallV.mono h31 (fun _ _ _ ⟨r13, h30, h29⟩ => ⟨r13, h30, ⟨h29.1, ⟨h29.2.1, ⟨(L_waveportref07_Window_2.mk (IntKind.i64.wrap (x10.t7 + 1)) (setL x10.o27 (0 + Int.toNat x10.t7 * 5) [.bool r13.re.neg, r13.re.mag.v, .bool r13.im.neg, r13.im.mag.v, r13.under.v])), ⟨⟨rfl, rfl, rfl, rfl, trivial⟩, ⟨rfl, trivial⟩⟩, h29.2.2.1, h29.2.2.2⟩⟩⟩⟩))⟩)), fun h39 => (CallV.mono (((h42.2 h41).2 h40).2 h39) (fun _ _ _ ⟨r14, h38, h37⟩ => ⟨r14, h38, (CallV.mono h37 (fun _ _ _ ⟨r15, h36, h35⟩ => ⟨r15, h36, (CallV.mono h35 (fun _ _ _ ⟨r16, h34, h33⟩ => ⟨r16, h34, ⟨h33.1, ⟨h33.2.1, ⟨(L_waveportref07_Window_2.mk (IntKind.i64.wrap (x10.t7 + 1)) (setL x10.o27 (0 + Int.toNat x10.t7 * 5) [.bool r16.re.neg, r16.re.mag.v, .bool r16.im.neg, r16.im.mag.v, r16.under.v])), ⟨⟨rfl, rfl, rfl, rfl, trivial⟩, ⟨rfl, trivial⟩⟩, h33.2.2.1, h33.2.2.2⟩⟩⟩⟩))⟩))⟩))⟩⟩⟩⟩))⟩)), fun h48 => (fun b1 V19 h46 h47 => (((((h.2 x1 V1 h53 h54).2 x4 V2 h51 h52).2.2 x10 V3 h49 h50).2 h48) b1 V19 h46 h47))⟩⟩⟩⟩⟩))

end Go.Proofs.Ytcapadojlaojkaa
