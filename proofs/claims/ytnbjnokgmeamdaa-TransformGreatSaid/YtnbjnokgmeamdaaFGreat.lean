/- Made by a program of this repo (gen.py): what each function asks of the functions that it calls. -/
import Derived.Test.YtnbjnokgmeamdaaP
set_option maxRecDepth 100000
set_option maxHeartbeats 4000000
namespace Go.Proofs.Ytnbjnokgmeamdaa
open Go Go.Vc Go.Proofs

structure L_transform_NewGrid_bool__0 where
  o2 : GridV
structure L_transform_NewGrid_bool__1 where
  t18 : Int
  o2 : GridV
  o4_0l : Nat
  o4_0c : Nat
  o45 : List Value
/-- waveport/transform.NewGrid[bool] -/
theorem transform_NewGrid_bool__vc (p0 : Sl) (V : View) (R : Value → View → Prop) (I_transform_NewGrid_bool__0 : Unit → L_transform_NewGrid_bool__0 → View → Prop) (I_transform_NewGrid_bool__1 : Unit → L_transform_NewGrid_bool__1 → View → Prop) (mu_transform_NewGrid_bool__1 : Unit → L_transform_NewGrid_bool__1 → View → Nat)
  (h :
    (((decide (((p0.len : Int) : Int) < 1)) = true →
      (true = true →
        R (.tuple #[(GridV.mk (Sl.mk none 0 0)).val, .int .i64 4]) V) ∧
      (true = false →
        I_transform_NewGrid_bool__0 () (L_transform_NewGrid_bool__0.mk (GridV.mk (Sl.mk none 0 0))) V)) ∧
      ((decide (((p0.len : Int) : Int) < 1)) = false →
      ((decide (((p0.len : Int) : Int) > 64)) = true →
        R (.tuple #[(GridV.mk (Sl.mk none 0 0)).val, .int .i64 4]) V) ∧
      ((decide (((p0.len : Int) : Int) > 64)) = false →
        I_transform_NewGrid_bool__0 () (L_transform_NewGrid_bool__0.mk (GridV.mk (Sl.mk none 0 0))) V))) ∧
    (∀ (x1 : L_transform_NewGrid_bool__0) (V1 : View), View.le V V1 → I_transform_NewGrid_bool__0 () x1 V1 →
      I_transform_NewGrid_bool__1 () (L_transform_NewGrid_bool__1.mk 0 x1.o2 0 0 ([] : List Value)) V1 ∧
      (∀ (x5 : L_transform_NewGrid_bool__1) (V2 : View), View.le V1 V2 → I_transform_NewGrid_bool__1 () x5 V2 →
        ((decide ((x5.t18 : Int) < (p0.len : Int))) = true →
          ((0 : Int) ≤ x5.t18 ∧ (x5.t18 : Int) < (p0.len : Nat) ∧ Option.isSome p0.a = true) ∧
        ∃ x6 : Sl, View.load V2 (Option.map (fun q => Addr.add q (Int.toNat x5.t18 * 1)) p0.a) = some (x6.v) ∧
        ((decide (((x6.len : Int) : Int) < 1)) = true →
        (true = true →
        (true = true →
          R (.tuple #[(GridV.mk (Sl.mk none 0 0)).val, .int .i64 4]) V2) ∧
        (true = false →
          CallV Try.prog 55 #[x6.v] V2 fun v V3 => ∃ r1 : Sl, v = r1.v ∧ -- slices.Clone[[]bool,bool]
        ∀ (b1 : Nat) (V4 : View), View.le V3 V4 → View.Fin V4 → V4 b1 = some #[r1.v] →
        ∃ (l1 : List Value) (l2 : List Value), LstOk 1 x5.o4_0l x5.o4_0c x5.o45 l1 ∧ View.has V4 (some (Addr.mk b1 0 none)) l2 ∧ List.length l2 = 1 * 1 ∧ (∀ v ∈ l2, Value.oneCell' v = true) ∧ x5.o4_0l + 1 ≤ maxLen ∧ (x5.o4_0l + 1) * 24 ≤ 140737488355328 ∧
        ∀ (c1 : Nat) (l3 : List Value), LstOk 1 (x5.o4_0l + 1) c1 l3 (l1 ++ l2) →
        I_transform_NewGrid_bool__1 () (L_transform_NewGrid_bool__1.mk (IntKind.i64.wrap (x5.t18 + 1)) x5.o2 (x5.o4_0l + 1) c1 l3) V4 ∧ mu_transform_NewGrid_bool__1 () (L_transform_NewGrid_bool__1.mk (IntKind.i64.wrap (x5.t18 + 1)) x5.o2 (x5.o4_0l + 1) c1 l3) V4 < mu_transform_NewGrid_bool__1 () x5 V2)) ∧
        (true = false →
        ((0 : Int) ≤ 0 ∧ (0 : Int) < (p0.len : Nat) ∧ Option.isSome p0.a = true) ∧
        ∃ x8 : Sl, View.load V2 (Option.map (fun q => Addr.add q (Int.toNat 0 * 1)) p0.a) = some (x8.v) ∧
        ((((x6.len : Int) : Int) != (x8.len : Int)) = true →
          R (.tuple #[(GridV.mk (Sl.mk none 0 0)).val, .int .i64 4]) V2) ∧
        ((((x6.len : Int) : Int) != (x8.len : Int)) = false →
          CallV Try.prog 55 #[x6.v] V2 fun v V5 => ∃ r2 : Sl, v = r2.v ∧ -- slices.Clone[[]bool,bool]
        ∀ (b2 : Nat) (V6 : View), View.le V5 V6 → View.Fin V6 → V6 b2 = some #[r2.v] →
        ∃ (l4 : List Value) (l5 : List Value), LstOk 1 x5.o4_0l x5.o4_0c x5.o45 l4 ∧ View.has V6 (some (Addr.mk b2 0 none)) l5 ∧ List.length l5 = 1 * 1 ∧ (∀ v ∈ l5, Value.oneCell' v = true) ∧ x5.o4_0l + 1 ≤ maxLen ∧ (x5.o4_0l + 1) * 24 ≤ 140737488355328 ∧
        ∀ (c2 : Nat) (l6 : List Value), LstOk 1 (x5.o4_0l + 1) c2 l6 (l4 ++ l5) →
        I_transform_NewGrid_bool__1 () (L_transform_NewGrid_bool__1.mk (IntKind.i64.wrap (x5.t18 + 1)) x5.o2 (x5.o4_0l + 1) c2 l6) V6 ∧ mu_transform_NewGrid_bool__1 () (L_transform_NewGrid_bool__1.mk (IntKind.i64.wrap (x5.t18 + 1)) x5.o2 (x5.o4_0l + 1) c2 l6) V6 < mu_transform_NewGrid_bool__1 () x5 V2))) ∧
        ((decide (((x6.len : Int) : Int) < 1)) = false →
        ((decide (((x6.len : Int) : Int) > 64)) = true →
        (true = true →
          R (.tuple #[(GridV.mk (Sl.mk none 0 0)).val, .int .i64 4]) V2) ∧
        (true = false →
          CallV Try.prog 55 #[x6.v] V2 fun v V7 => ∃ r3 : Sl, v = r3.v ∧ -- slices.Clone[[]bool,bool]
        ∀ (b3 : Nat) (V8 : View), View.le V7 V8 → View.Fin V8 → V8 b3 = some #[r3.v] →
        ∃ (l7 : List Value) (l8 : List Value), LstOk 1 x5.o4_0l x5.o4_0c x5.o45 l7 ∧ View.has V8 (some (Addr.mk b3 0 none)) l8 ∧ List.length l8 = 1 * 1 ∧ (∀ v ∈ l8, Value.oneCell' v = true) ∧ x5.o4_0l + 1 ≤ maxLen ∧ (x5.o4_0l + 1) * 24 ≤ 140737488355328 ∧
        ∀ (c3 : Nat) (l9 : List Value), LstOk 1 (x5.o4_0l + 1) c3 l9 (l7 ++ l8) →
        I_transform_NewGrid_bool__1 () (L_transform_NewGrid_bool__1.mk (IntKind.i64.wrap (x5.t18 + 1)) x5.o2 (x5.o4_0l + 1) c3 l9) V8 ∧ mu_transform_NewGrid_bool__1 () (L_transform_NewGrid_bool__1.mk (IntKind.i64.wrap (x5.t18 + 1)) x5.o2 (x5.o4_0l + 1) c3 l9) V8 < mu_transform_NewGrid_bool__1 () x5 V2)) ∧
        ((decide (((x6.len : Int) : Int) > 64)) = false →
        ((0 : Int) ≤ 0 ∧ (0 : Int) < (p0.len : Nat) ∧ Option.isSome p0.a = true) ∧
        ∃ x11 : Sl, View.load V2 (Option.map (fun q => Addr.add q (Int.toNat 0 * 1)) p0.a) = some (x11.v) ∧
        ((((x6.len : Int) : Int) != (x11.len : Int)) = true →
          R (.tuple #[(GridV.mk (Sl.mk none 0 0)).val, .int .i64 4]) V2) ∧
        ((((x6.len : Int) : Int) != (x11.len : Int)) = false →
          CallV Try.prog 55 #[x6.v] V2 fun v V9 => ∃ r4 : Sl, v = r4.v ∧ -- slices.Clone[[]bool,bool]
        ∀ (b4 : Nat) (V10 : View), View.le V9 V10 → View.Fin V10 → V10 b4 = some #[r4.v] →
        ∃ (l10 : List Value) (l11 : List Value), LstOk 1 x5.o4_0l x5.o4_0c x5.o45 l10 ∧ View.has V10 (some (Addr.mk b4 0 none)) l11 ∧ List.length l11 = 1 * 1 ∧ (∀ v ∈ l11, Value.oneCell' v = true) ∧ x5.o4_0l + 1 ≤ maxLen ∧ (x5.o4_0l + 1) * 24 ≤ 140737488355328 ∧
        ∀ (c4 : Nat) (l12 : List Value), LstOk 1 (x5.o4_0l + 1) c4 l12 (l10 ++ l11) →
        I_transform_NewGrid_bool__1 () (L_transform_NewGrid_bool__1.mk (IntKind.i64.wrap (x5.t18 + 1)) x5.o2 (x5.o4_0l + 1) c4 l12) V10 ∧ mu_transform_NewGrid_bool__1 () (L_transform_NewGrid_bool__1.mk (IntKind.i64.wrap (x5.t18 + 1)) x5.o2 (x5.o4_0l + 1) c4 l12) V10 < mu_transform_NewGrid_bool__1 () x5 V2)))) ∧
        ((decide ((x5.t18 : Int) < (p0.len : Int))) = false →
          ∀ (b5 : Nat) (V11 : View), View.le V2 V11 → (x5.o45 ≠ [] → V11 b5 = some (List.toArray x5.o45)) →
      R (.tuple #[(GridV.mk (Sl.mk (lstA b5 x5.o4_0c) x5.o4_0l x5.o4_0c)).val, .int .i64 0]) V11)))) :
  CallV Try.prog 17 #[p0.v] V R :=
  calls_of_vc (Shp := Shp) hmixed Try.func17 (c := Try.f17.body.getD .skip) (args := [p0.v]) (by kernel_rfl)
    (.seq (.reg [⟨2, 3, false⟩, ⟨3, 2, false⟩]) (.cut Unit L_transform_NewGrid_bool__0 (fun _ => ()) (fun c x => { tm := spT 49 0 [(0, .val (p0.v)), (2, .own 2 0)], own := spO 49 0 [(2, ⟨40, .fixed [.val (x.o2.rows.v)]⟩)] }) I_transform_NewGrid_bool__0 (.seq (.reg [⟨7, 2, false⟩, ⟨8, 0, false⟩, ⟨9, 0, false⟩, ⟨10, 2, true⟩, ⟨11, 2, false⟩, ⟨12, 0, false⟩, ⟨13, 0, false⟩, ⟨14, 2, false⟩]) (.cond (.seq (.reg [⟨15, 0, false⟩, ⟨2, 6, false⟩, ⟨3, 2, false⟩]) .leaf) .leaf)) (.seq (.reg [⟨4, 3, false⟩]) (.seq (.seq (.adoptC 4 0 45 38 (.reg [⟨16, 2, false⟩, ⟨17, 0, false⟩, ⟨18, 2, false⟩])) (.block (.loop Unit L_transform_NewGrid_bool__1 (fun _ => ()) (fun c x => { tm := spT 49 0 [(0, .val (p0.v)), (2, .own 2 0), (4, .own 4 0), (16, .val (p0.v)), (17, .val (.int .i64 (p0.len : Int))), (18, .val (.int .i64 x.t18))], own := spO 49 0 [(2, ⟨40, .fixed [.val (x.o2.rows.v)]⟩), (4, ⟨40, .fixed [.lst 45 x.o4_0l x.o4_0c]⟩), (45, ⟨38, .list x.o45⟩)] }) I_transform_NewGrid_bool__1 mu_transform_NewGrid_bool__1 (.seq (.reg [⟨19, 0, false⟩]) (.seq (.cond .leaf .leaf) (.seq (.block (.seq (.reg [⟨20, 7, false⟩, ⟨21, 5, false⟩, ⟨6, 2, false⟩]) (.seq (.seq (.reg [⟨22, 2, false⟩, ⟨23, 0, false⟩, ⟨24, 0, false⟩, ⟨25, 2, true⟩, ⟨26, 2, false⟩, ⟨27, 0, false⟩, ⟨28, 0, false⟩, ⟨29, 2, false⟩, ⟨30, 2, true⟩, ⟨31, 2, false⟩, ⟨32, 0, false⟩, ⟨33, 2, false⟩, ⟨34, 7, false⟩, ⟨35, 5, false⟩, ⟨36, 0, false⟩, ⟨37, 0, false⟩, ⟨38, 2, false⟩]) (.cond (.seq (.reg [⟨39, 0, false⟩, ⟨2, 6, false⟩, ⟨3, 2, false⟩]) .leaf) .leaf)) (.draw [(0, ⟨40, 7, false⟩), (1, ⟨4, 4, false⟩), (2, ⟨42, 2, false⟩), (3, ⟨43, 10, false⟩), (4, ⟨44, 11, false⟩), (5, ⟨45, 13, false⟩), (6, ⟨46, 7, false⟩), (7, ⟨4, 6, false⟩)] [0, 1, 0, 4, 12, 31, 63, 127])))) (.reg [⟨47, 0, false⟩, ⟨18, 2, false⟩]))))))) (.seq (.pub 45 (.reg [⟨4, 4, false⟩, ⟨2, 6, false⟩, ⟨3, 2, false⟩])) .leaf)))))
    (Eq.mpr (by kernel_rfl) (show (((decide (((p0.len : Int) : Int) < 1)) = true →
      (true = true →
        R (.tuple #[(GridV.mk (Sl.mk none 0 0)).val, .int .i64 4]) V) ∧
      (true = false →
        ∃ x2 : L_transform_NewGrid_bool__0, ((SV.val (p0.v) = SV.val (p0.v) ∧ SV.own 2 0 = SV.own 2 0 ∧ True) ∧ ((some (⟨40, .fixed [.val (.slice none 0 0)]⟩) : Option OB) = some (⟨40, .fixed [.val (x2.o2.rows.v)]⟩) ∧ True)) ∧ I_transform_NewGrid_bool__0 () x2 V)) ∧
      ((decide (((p0.len : Int) : Int) < 1)) = false →
      ((decide (((p0.len : Int) : Int) > 64)) = true →
        R (.tuple #[(GridV.mk (Sl.mk none 0 0)).val, .int .i64 4]) V) ∧
      ((decide (((p0.len : Int) : Int) > 64)) = false →
        ∃ x3 : L_transform_NewGrid_bool__0, ((SV.val (p0.v) = SV.val (p0.v) ∧ SV.own 2 0 = SV.own 2 0 ∧ True) ∧ ((some (⟨40, .fixed [.val (.slice none 0 0)]⟩) : Option OB) = some (⟨40, .fixed [.val (x3.o2.rows.v)]⟩) ∧ True)) ∧ I_transform_NewGrid_bool__0 () x3 V))) ∧
    (∀ (x1 : L_transform_NewGrid_bool__0) (V1 : View), View.le V V1 → I_transform_NewGrid_bool__0 () x1 V1 →
      (∃ x4 : L_transform_NewGrid_bool__1, ((SV.val (p0.v) = SV.val (p0.v) ∧ SV.own 2 0 = SV.own 2 0 ∧ SV.own 4 0 = SV.own 4 0 ∧ SV.val (p0.v) = SV.val (p0.v) ∧ SV.val (.int .i64 (p0.len : Int)) = SV.val (.int .i64 (p0.len : Int)) ∧ SV.val (.int .i64 0) = SV.val (.int .i64 x4.t18) ∧ True) ∧ ((some (⟨40, .fixed [.val (x1.o2.rows.v)]⟩) : Option OB) = some (⟨40, .fixed [.val (x4.o2.rows.v)]⟩) ∧ (some (⟨40, .fixed [.lst 45 0 0]⟩) : Option OB) = some (⟨40, .fixed [.lst 45 x4.o4_0l x4.o4_0c]⟩) ∧ (some (⟨38, .list ([] : List Value)⟩) : Option OB) = some (⟨38, .list x4.o45⟩) ∧ True)) ∧ I_transform_NewGrid_bool__1 () x4 V1) ∧
      (∀ (x5 : L_transform_NewGrid_bool__1) (V2 : View), View.le V1 V2 → I_transform_NewGrid_bool__1 () x5 V2 →
        ((decide ((x5.t18 : Int) < (p0.len : Int))) = true →
          ((0 : Int) ≤ x5.t18 ∧ (x5.t18 : Int) < (p0.len : Nat) ∧ Option.isSome p0.a = true) ∧
        ∃ x6 : Sl, View.load V2 (Option.map (fun q => Addr.add q (Int.toNat x5.t18 * 1)) p0.a) = some (x6.v) ∧
        ((decide (((x6.len : Int) : Int) < 1)) = true →
        (true = true →
        (true = true →
          R (.tuple #[(GridV.mk (Sl.mk none 0 0)).val, .int .i64 4]) V2) ∧
        (true = false →
          CallV Try.prog 55 #[x6.v] V2 fun v V3 => ∃ r1 : Sl, v = r1.v ∧ -- slices.Clone[[]bool,bool]
        ∀ (b1 : Nat) (V4 : View), View.le V3 V4 → View.Fin V4 → V4 b1 = some #[r1.v] →
        ∃ (l1 : List Value) (l2 : List Value), LstOk 1 x5.o4_0l x5.o4_0c x5.o45 l1 ∧ View.has V4 (some (Addr.mk b1 0 none)) l2 ∧ List.length l2 = 1 * 1 ∧ (∀ v ∈ l2, Value.oneCell' v = true) ∧ x5.o4_0l + 1 ≤ maxLen ∧ (x5.o4_0l + 1) * 24 ≤ 140737488355328 ∧
        ∀ (c1 : Nat) (l3 : List Value), LstOk 1 (x5.o4_0l + 1) c1 l3 (l1 ++ l2) →
        ∃ x7 : L_transform_NewGrid_bool__1, ((SV.val (p0.v) = SV.val (p0.v) ∧ SV.own 2 0 = SV.own 2 0 ∧ SV.own 4 0 = SV.own 4 0 ∧ SV.val (p0.v) = SV.val (p0.v) ∧ SV.val (.int .i64 (p0.len : Int)) = SV.val (.int .i64 (p0.len : Int)) ∧ SV.val (.int .i64 (IntKind.i64.wrap (x5.t18 + 1))) = SV.val (.int .i64 x7.t18) ∧ True) ∧ ((some (⟨40, .fixed [.val (x5.o2.rows.v)]⟩) : Option OB) = some (⟨40, .fixed [.val (x7.o2.rows.v)]⟩) ∧ (some (⟨40, .fixed [.lst 45 (x5.o4_0l + 1) c1]⟩) : Option OB) = some (⟨40, .fixed [.lst 45 x7.o4_0l x7.o4_0c]⟩) ∧ (some (⟨38, .list l3⟩) : Option OB) = some (⟨38, .list x7.o45⟩) ∧ True)) ∧ I_transform_NewGrid_bool__1 () x7 V4 ∧ mu_transform_NewGrid_bool__1 () x7 V4 < mu_transform_NewGrid_bool__1 () x5 V2)) ∧
        (true = false →
        ((0 : Int) ≤ 0 ∧ (0 : Int) < (p0.len : Nat) ∧ Option.isSome p0.a = true) ∧
        ∃ x8 : Sl, View.load V2 (Option.map (fun q => Addr.add q (Int.toNat 0 * 1)) p0.a) = some (x8.v) ∧
        ((((x6.len : Int) : Int) != (x8.len : Int)) = true →
          R (.tuple #[(GridV.mk (Sl.mk none 0 0)).val, .int .i64 4]) V2) ∧
        ((((x6.len : Int) : Int) != (x8.len : Int)) = false →
          CallV Try.prog 55 #[x6.v] V2 fun v V5 => ∃ r2 : Sl, v = r2.v ∧ -- slices.Clone[[]bool,bool]
        ∀ (b2 : Nat) (V6 : View), View.le V5 V6 → View.Fin V6 → V6 b2 = some #[r2.v] →
        ∃ (l4 : List Value) (l5 : List Value), LstOk 1 x5.o4_0l x5.o4_0c x5.o45 l4 ∧ View.has V6 (some (Addr.mk b2 0 none)) l5 ∧ List.length l5 = 1 * 1 ∧ (∀ v ∈ l5, Value.oneCell' v = true) ∧ x5.o4_0l + 1 ≤ maxLen ∧ (x5.o4_0l + 1) * 24 ≤ 140737488355328 ∧
        ∀ (c2 : Nat) (l6 : List Value), LstOk 1 (x5.o4_0l + 1) c2 l6 (l4 ++ l5) →
        ∃ x9 : L_transform_NewGrid_bool__1, ((SV.val (p0.v) = SV.val (p0.v) ∧ SV.own 2 0 = SV.own 2 0 ∧ SV.own 4 0 = SV.own 4 0 ∧ SV.val (p0.v) = SV.val (p0.v) ∧ SV.val (.int .i64 (p0.len : Int)) = SV.val (.int .i64 (p0.len : Int)) ∧ SV.val (.int .i64 (IntKind.i64.wrap (x5.t18 + 1))) = SV.val (.int .i64 x9.t18) ∧ True) ∧ ((some (⟨40, .fixed [.val (x5.o2.rows.v)]⟩) : Option OB) = some (⟨40, .fixed [.val (x9.o2.rows.v)]⟩) ∧ (some (⟨40, .fixed [.lst 45 (x5.o4_0l + 1) c2]⟩) : Option OB) = some (⟨40, .fixed [.lst 45 x9.o4_0l x9.o4_0c]⟩) ∧ (some (⟨38, .list l6⟩) : Option OB) = some (⟨38, .list x9.o45⟩) ∧ True)) ∧ I_transform_NewGrid_bool__1 () x9 V6 ∧ mu_transform_NewGrid_bool__1 () x9 V6 < mu_transform_NewGrid_bool__1 () x5 V2))) ∧
        ((decide (((x6.len : Int) : Int) < 1)) = false →
        ((decide (((x6.len : Int) : Int) > 64)) = true →
        (true = true →
          R (.tuple #[(GridV.mk (Sl.mk none 0 0)).val, .int .i64 4]) V2) ∧
        (true = false →
          CallV Try.prog 55 #[x6.v] V2 fun v V7 => ∃ r3 : Sl, v = r3.v ∧ -- slices.Clone[[]bool,bool]
        ∀ (b3 : Nat) (V8 : View), View.le V7 V8 → View.Fin V8 → V8 b3 = some #[r3.v] →
        ∃ (l7 : List Value) (l8 : List Value), LstOk 1 x5.o4_0l x5.o4_0c x5.o45 l7 ∧ View.has V8 (some (Addr.mk b3 0 none)) l8 ∧ List.length l8 = 1 * 1 ∧ (∀ v ∈ l8, Value.oneCell' v = true) ∧ x5.o4_0l + 1 ≤ maxLen ∧ (x5.o4_0l + 1) * 24 ≤ 140737488355328 ∧
        ∀ (c3 : Nat) (l9 : List Value), LstOk 1 (x5.o4_0l + 1) c3 l9 (l7 ++ l8) →
        ∃ x10 : L_transform_NewGrid_bool__1, ((SV.val (p0.v) = SV.val (p0.v) ∧ SV.own 2 0 = SV.own 2 0 ∧ SV.own 4 0 = SV.own 4 0 ∧ SV.val (p0.v) = SV.val (p0.v) ∧ SV.val (.int .i64 (p0.len : Int)) = SV.val (.int .i64 (p0.len : Int)) ∧ SV.val (.int .i64 (IntKind.i64.wrap (x5.t18 + 1))) = SV.val (.int .i64 x10.t18) ∧ True) ∧ ((some (⟨40, .fixed [.val (x5.o2.rows.v)]⟩) : Option OB) = some (⟨40, .fixed [.val (x10.o2.rows.v)]⟩) ∧ (some (⟨40, .fixed [.lst 45 (x5.o4_0l + 1) c3]⟩) : Option OB) = some (⟨40, .fixed [.lst 45 x10.o4_0l x10.o4_0c]⟩) ∧ (some (⟨38, .list l9⟩) : Option OB) = some (⟨38, .list x10.o45⟩) ∧ True)) ∧ I_transform_NewGrid_bool__1 () x10 V8 ∧ mu_transform_NewGrid_bool__1 () x10 V8 < mu_transform_NewGrid_bool__1 () x5 V2)) ∧
        ((decide (((x6.len : Int) : Int) > 64)) = false →
        ((0 : Int) ≤ 0 ∧ (0 : Int) < (p0.len : Nat) ∧ Option.isSome p0.a = true) ∧
        ∃ x11 : Sl, View.load V2 (Option.map (fun q => Addr.add q (Int.toNat 0 * 1)) p0.a) = some (x11.v) ∧
        ((((x6.len : Int) : Int) != (x11.len : Int)) = true →
          R (.tuple #[(GridV.mk (Sl.mk none 0 0)).val, .int .i64 4]) V2) ∧
        ((((x6.len : Int) : Int) != (x11.len : Int)) = false →
          CallV Try.prog 55 #[x6.v] V2 fun v V9 => ∃ r4 : Sl, v = r4.v ∧ -- slices.Clone[[]bool,bool]
        ∀ (b4 : Nat) (V10 : View), View.le V9 V10 → View.Fin V10 → V10 b4 = some #[r4.v] →
        ∃ (l10 : List Value) (l11 : List Value), LstOk 1 x5.o4_0l x5.o4_0c x5.o45 l10 ∧ View.has V10 (some (Addr.mk b4 0 none)) l11 ∧ List.length l11 = 1 * 1 ∧ (∀ v ∈ l11, Value.oneCell' v = true) ∧ x5.o4_0l + 1 ≤ maxLen ∧ (x5.o4_0l + 1) * 24 ≤ 140737488355328 ∧
        ∀ (c4 : Nat) (l12 : List Value), LstOk 1 (x5.o4_0l + 1) c4 l12 (l10 ++ l11) →
        ∃ x12 : L_transform_NewGrid_bool__1, ((SV.val (p0.v) = SV.val (p0.v) ∧ SV.own 2 0 = SV.own 2 0 ∧ SV.own 4 0 = SV.own 4 0 ∧ SV.val (p0.v) = SV.val (p0.v) ∧ SV.val (.int .i64 (p0.len : Int)) = SV.val (.int .i64 (p0.len : Int)) ∧ SV.val (.int .i64 (IntKind.i64.wrap (x5.t18 + 1))) = SV.val (.int .i64 x12.t18) ∧ True) ∧ ((some (⟨40, .fixed [.val (x5.o2.rows.v)]⟩) : Option OB) = some (⟨40, .fixed [.val (x12.o2.rows.v)]⟩) ∧ (some (⟨40, .fixed [.lst 45 (x5.o4_0l + 1) c4]⟩) : Option OB) = some (⟨40, .fixed [.lst 45 x12.o4_0l x12.o4_0c]⟩) ∧ (some (⟨38, .list l12⟩) : Option OB) = some (⟨38, .list x12.o45⟩) ∧ True)) ∧ I_transform_NewGrid_bool__1 () x12 V10 ∧ mu_transform_NewGrid_bool__1 () x12 V10 < mu_transform_NewGrid_bool__1 () x5 V2)))) ∧
        ((decide ((x5.t18 : Int) < (p0.len : Int))) = false →
          ∀ (b5 : Nat) (V11 : View), View.le V2 V11 → (x5.o45 ≠ [] → V11 b5 = some (List.toArray x5.o45)) →
      R (.tuple #[(GridV.mk (Sl.mk (lstA b5 x5.o4_0c) x5.o4_0l x5.o4_0c)).val, .int .i64 0]) V11))) from ⟨⟨fun h3 => ⟨fun h1 => ((h.1.1 h3).1 h1), fun h1 => ⟨(L_transform_NewGrid_bool__0.mk (GridV.mk (Sl.mk none 0 0))), ⟨⟨rfl, rfl, trivial⟩, ⟨rfl, trivial⟩⟩, ((h.1.1 h3).2 h1)⟩⟩, fun h3 => ⟨fun h2 => ((h.1.2 h3).1 h2), fun h2 => ⟨(L_transform_NewGrid_bool__0.mk (GridV.mk (Sl.mk none 0 0))), ⟨⟨rfl, rfl, trivial⟩, ⟨rfl, trivial⟩⟩, ((h.1.2 h3).2 h2)⟩⟩⟩, fun x1 V1 h74 h75 => ⟨⟨(L_transform_NewGrid_bool__1.mk 0 x1.o2 0 0 ([] : List Value)), ⟨⟨rfl, rfl, rfl, rfl, rfl, rfl, trivial⟩, ⟨rfl, rfl, rfl, trivial⟩⟩, (h.2 x1 V1 h74 h75).1⟩, fun x5 V2 h72 h73 => ⟨fun h71 => ⟨(((h.2 x1 V1 h74 h75).2 x5 V2 h72 h73).1 h71).1, (match (((h.2 x1 V1 h74 h75).2 x5 V2 h72 h73).1 h71).2 with | ⟨x6, h68, h67⟩ => ⟨x6, h68, ⟨fun h66 => ⟨fun h34 => ⟨fun h17 => (((h67.1 h66).1 h34).1 h17), fun h17 => (CallV.mono (((h67.1 h66).1 h34).2 h17) (fun _ _ _ ⟨r1, h16, h15⟩ => ⟨r1, h16, (fun b1 V4 h12 h13 h14 => (match (h15 b1 V4 h12 h13 h14) with | ⟨l1, l2, h6, h7, h8, h9, h10, h11, h5⟩ => ⟨l1, l2, h6, h7, h8, h9, h10, h11, (fun c1 l3 h4 => ⟨(L_transform_NewGrid_bool__1.mk (IntKind.i64.wrap (x5.t18 + 1)) x5.o2 (x5.o4_0l + 1) c1 l3), ⟨⟨rfl, rfl, rfl, rfl, rfl, rfl, trivial⟩, ⟨rfl, rfl, rfl, trivial⟩⟩, (h5 c1 l3 h4).1, (h5 c1 l3 h4).2⟩)⟩))⟩))⟩, fun h34 => ⟨((h67.1 h66).2 h34).1, (match ((h67.1 h66).2 h34).2 with | ⟨x8, h33, h32⟩ => ⟨x8, h33, ⟨fun h31 => (h32.1 h31), fun h31 => (CallV.mono (h32.2 h31) (fun _ _ _ ⟨r2, h30, h29⟩ => ⟨r2, h30, (fun b2 V6 h26 h27 h28 => (match (h29 b2 V6 h26 h27 h28) with | ⟨l4, l5, h20, h21, h22, h23, h24, h25, h19⟩ => ⟨l4, l5, h20, h21, h22, h23, h24, h25, (fun c2 l6 h18 => ⟨(L_transform_NewGrid_bool__1.mk (IntKind.i64.wrap (x5.t18 + 1)) x5.o2 (x5.o4_0l + 1) c2 l6), ⟨⟨rfl, rfl, rfl, rfl, rfl, rfl, trivial⟩, ⟨rfl, rfl, rfl, trivial⟩⟩, (h19 c2 l6 h18).1, (h19 c2 l6 h18).2⟩)⟩))⟩))⟩⟩)⟩⟩, fun h66 => ⟨fun h65 => ⟨fun h48 => (((h67.2 h66).1 h65).1 h48), fun h48 => (CallV.mono (((h67.2 h66).1 h65).2 h48) (fun _ _ _ ⟨r3, h47, h46⟩ => ⟨r3, h47, (fun b3 V8 h43 h44 h45 => (match (h46 b3 V8 h43 h44 h45) with | ⟨l7, l8, h37, h38, h39, h40, h41, h42, h36⟩ => ⟨l7, l8, h37, h38, h39, h40, h41, h42, (fun c3 l9 h35 => ⟨(L_transform_NewGrid_bool__1.mk (IntKind.i64.wrap (x5.t18 + 1)) x5.o2 (x5.o4_0l + 1) c3 l9), ⟨⟨rfl, rfl, rfl, rfl, rfl, rfl, trivial⟩, ⟨rfl, rfl, rfl, trivial⟩⟩, (h36 c3 l9 h35).1, (h36 c3 l9 h35).2⟩)⟩))⟩))⟩, fun h65 => ⟨((h67.2 h66).2 h65).1, (match ((h67.2 h66).2 h65).2 with | ⟨x11, h64, h63⟩ => ⟨x11, h64, ⟨fun h62 => (h63.1 h62), fun h62 => (CallV.mono (h63.2 h62) (fun _ _ _ ⟨r4, h61, h60⟩ => ⟨r4, h61, (fun b4 V10 h57 h58 h59 => (match (h60 b4 V10 h57 h58 h59) with | ⟨l10, l11, h51, h52, h53, h54, h55, h56, h50⟩ => ⟨l10, l11, h51, h52, h53, h54, h55, h56, (fun c4 l12 h49 => ⟨(L_transform_NewGrid_bool__1.mk (IntKind.i64.wrap (x5.t18 + 1)) x5.o2 (x5.o4_0l + 1) c4 l12), ⟨⟨rfl, rfl, rfl, rfl, rfl, rfl, trivial⟩, ⟨rfl, rfl, rfl, trivial⟩⟩, (h50 c4 l12 h49).1, (h50 c4 l12 h49).2⟩)⟩))⟩))⟩⟩)⟩⟩⟩⟩)⟩, fun h71 => (fun b5 V11 h69 h70 => ((((h.2 x1 V1 h74 h75).2 x5 V2 h72 h73).2 h71) b5 V11 h69 h70))⟩⟩⟩))

/-- (waveport/transform.Grid[bool]).Size -/
theorem m_transform_Grid_bool___Size_vc (p0 : GridV) (V : View) (R : Value → View → Prop) 
  (h :
    ((((p0.rows.len : Int) : Int) == 0) = true →
      R (.tuple #[.int .i64 0, .int .i64 0]) V) ∧
    ((((p0.rows.len : Int) : Int) == 0) = false →
      ((0 : Int) ≤ 0 ∧ (0 : Int) < (p0.rows.len : Nat) ∧ Option.isSome p0.rows.a = true) ∧
    ∃ x1 : Sl, View.load V (Option.map (fun q => Addr.add q (Int.toNat 0 * 1)) p0.rows.a) = some (x1.v) ∧
    R (.tuple #[.int .i64 (p0.rows.len : Int), .int .i64 (x1.len : Int)]) V)) :
  CallV Try.prog 18 #[p0.val] V R :=
  calls_of_vc (Shp := Shp) hmixed Try.func18 (c := Try.f18.body.getD .skip) (args := [p0.val]) (by kernel_rfl)
    (.seq (.reg [⟨1, 3, false⟩, ⟨2, 2, false⟩, ⟨3, 2, false⟩]) (.seq (.seq (.reg [⟨4, 7, false⟩, ⟨1, 4, false⟩, ⟨6, 0, false⟩, ⟨7, 0, false⟩]) (.cond (.seq (.reg [⟨2, 2, false⟩, ⟨3, 2, false⟩]) .leaf) .leaf)) (.seq (.draw [(0, ⟨8, 7, false⟩), (1, ⟨1, 4, false⟩), (2, ⟨10, 0, false⟩), (3, ⟨11, 7, false⟩), (4, ⟨1, 4, false⟩), (5, ⟨13, 7, false⟩), (6, ⟨14, 5, false⟩), (7, ⟨15, 0, false⟩), (8, ⟨2, 2, false⟩), (9, ⟨3, 2, false⟩)] [0, 1, 3, 0, 8, 24, 56, 120, 7, 511]) .leaf)))
    (Eq.mpr (by kernel_rfl) h)

/-- slices.Clone[[]bool,bool] -/
theorem slices_Clone___bool_bool__vc (p0 : Sl) (V : View) (R : Value → View → Prop) 
  (h :
    True ∧
    ((Option.isNone p0.a) = true →
      R ((Sl.mk none 0 0).v) V) ∧
    ((Option.isNone p0.a) = false →
      ∀ (b1 : Nat) (V1 : View), View.le V V1 → View.Fin V1 → V1 b1 = some #[] →
    (0 : Nat) = 0 ∧
    ∃ (l1 : List Value) (l2 : List Value), View.has V1 (some (Addr.mk b1 0 none)) l1 ∧ List.length l1 = 0 * 1 ∧ View.has V1 p0.a l2 ∧ List.length l2 = p0.len * 1 ∧ 0 + p0.len ≤ maxLen ∧ (0 + p0.len) * 1 ≤ 140737488355328 ∧
    ∀ (a1 : Option Addr) (c1 : Nat) (V2 : View), View.le V1 V2 → View.Fin V2 → 0 + p0.len ≤ c1 → View.has V2 a1 (l1 ++ l2) → (0 + p0.len ≠ 0 → Option.isSome a1 = true) →
    R ((Sl.mk a1 (0 + p0.len) c1).v) V2)) :
  CallV Try.prog 55 #[p0.v] V R :=
  calls_of_vc (Shp := Shp) hmixed Try.func55 (c := Try.f55.body.getD .skip) (args := [p0.v]) (by kernel_rfl)
    (.seq (.reg [⟨2, 2, false⟩]) (.seq (.seq (.reg [⟨3, 2, false⟩, ⟨4, 12, false⟩]) (.cond (.seq (.reg [⟨2, 2, false⟩]) .leaf) .leaf)) (.seq (.reg [⟨5, 11, false⟩, ⟨6, 2, false⟩, ⟨7, 15, false⟩, ⟨2, 2, false⟩]) .leaf)))
    (Eq.mpr (by kernel_rfl) h)

structure L_waveportlaw07_TransformGreat_0 where
  t26 : Int
  o23 : List Value
structure L_waveportlaw07_TransformGreat_1 where
  o23 : List Value
structure L_waveportlaw07_TransformGreat_2 where
  t43 : Bool
structure C_waveportlaw07_TransformGreat_2 where
  o23 : List Value
structure L_waveportlaw07_TransformGreat_3 where
  t15 : Bool
structure C_waveportlaw07_TransformGreat_3 where
  t12 : Int
  t13 : Int
  t14 : Int
/-- waveport/waveportlaw07.TransformGreat -/
theorem waveportlaw07_TransformGreat_vc (p0 : Int) (p1 : Int) (p2 : Bool) (V : View) (R : Value → View → Prop) (I_waveportlaw07_TransformGreat_0 : Unit → L_waveportlaw07_TransformGreat_0 → View → Prop) (mu_waveportlaw07_TransformGreat_0 : Unit → L_waveportlaw07_TransformGreat_0 → View → Nat) (I_waveportlaw07_TransformGreat_1 : Unit → L_waveportlaw07_TransformGreat_1 → View → Prop) (I_waveportlaw07_TransformGreat_2 : C_waveportlaw07_TransformGreat_2 → L_waveportlaw07_TransformGreat_2 → View → Prop) (I_waveportlaw07_TransformGreat_3 : C_waveportlaw07_TransformGreat_3 → L_waveportlaw07_TransformGreat_3 → View → Prop)
  (h :
    ((0 : Int) ≤ (Int.tmod (IntKind.i64.wrap p0) 70) ∧ ((Int.tmod (IntKind.i64.wrap p0) 70) : Int) ≤ (Int.tmod (IntKind.i64.wrap p0) 70) ∧ (24 : Int) * (Int.tmod (IntKind.i64.wrap p0) 70) ≤ 281474976710656 ∧ ((Int.tmod (IntKind.i64.wrap p0) 70) : Int) ≤ 9223372036854775807) ∧
    I_waveportlaw07_TransformGreat_0 () (L_waveportlaw07_TransformGreat_0.mk 0 ((List.replicate (Int.toNat (Int.tmod (IntKind.i64.wrap p0) 70)) [Value.slice none 0 0]).flatten)) V ∧
    (∀ (x2 : L_waveportlaw07_TransformGreat_0) (V1 : View), View.le V V1 → I_waveportlaw07_TransformGreat_0 () x2 V1 →
      ((decide ((x2.t26 : Int) < ((Int.toNat (Int.tmod (IntKind.i64.wrap p0) 70) : Nat) : Int))) = true →
        ((0 : Int) ≤ (Int.tmod (IntKind.i64.wrap p1) 70) ∧ ((Int.tmod (IntKind.i64.wrap p1) 70) : Int) ≤ (Int.tmod (IntKind.i64.wrap p1) 70) ∧ (1 : Int) * (Int.tmod (IntKind.i64.wrap p1) 70) ≤ 281474976710656 ∧ ((Int.tmod (IntKind.i64.wrap p1) 70) : Int) ≤ 9223372036854775807) ∧
      ∀ (b1 : Nat) (V2 : View), View.le V1 V2 → View.Fin V2 → V2 b1 = some (List.toArray (List.replicate (Int.toNat (Int.tmod (IntKind.i64.wrap p1) 70)) [Value.bool false]).flatten) →
      ((0 : Int) ≤ x2.t26 ∧ (x2.t26 : Int) < (Int.toNat (Int.tmod (IntKind.i64.wrap p0) 70) : Nat)) ∧
      0 + Int.toNat x2.t26 * 1 + 1 ≤ List.length x2.o23 ∧
      I_waveportlaw07_TransformGreat_0 () (L_waveportlaw07_TransformGreat_0.mk (IntKind.i64.wrap (x2.t26 + 1)) (List.set x2.o23 (0 + Int.toNat x2.t26 * 1) (.slice (some (Addr.mk b1 0 none)) (Int.toNat (Int.tmod (IntKind.i64.wrap p1) 70)) (Int.toNat (Int.tmod (IntKind.i64.wrap p1) 70))))) V2 ∧ mu_waveportlaw07_TransformGreat_0 () (L_waveportlaw07_TransformGreat_0.mk (IntKind.i64.wrap (x2.t26 + 1)) (List.set x2.o23 (0 + Int.toNat x2.t26 * 1) (.slice (some (Addr.mk b1 0 none)) (Int.toNat (Int.tmod (IntKind.i64.wrap p1) 70)) (Int.toNat (Int.tmod (IntKind.i64.wrap p1) 70))))) V2 < mu_waveportlaw07_TransformGreat_0 () x2 V1) ∧
      ((decide ((x2.t26 : Int) < ((Int.toNat (Int.tmod (IntKind.i64.wrap p0) 70) : Nat) : Int))) = false →
        (((p2 = true →
        ((decide (((Int.tmod (IntKind.i64.wrap p0) 70) : Int) > 1)) = true →
        I_waveportlaw07_TransformGreat_2 (C_waveportlaw07_TransformGreat_2.mk x2.o23) (L_waveportlaw07_TransformGreat_2.mk (decide (((Int.tmod (IntKind.i64.wrap p1) 70) : Int) > 0))) V1) ∧
        ((decide (((Int.tmod (IntKind.i64.wrap p0) 70) : Int) > 1)) = false →
        I_waveportlaw07_TransformGreat_2 (C_waveportlaw07_TransformGreat_2.mk x2.o23) (L_waveportlaw07_TransformGreat_2.mk false) V1)) ∧
        (p2 = false →
        (false = true →
        I_waveportlaw07_TransformGreat_2 (C_waveportlaw07_TransformGreat_2.mk x2.o23) (L_waveportlaw07_TransformGreat_2.mk (decide (((Int.tmod (IntKind.i64.wrap p1) 70) : Int) > 0))) V1) ∧
        (false = false →
        I_waveportlaw07_TransformGreat_2 (C_waveportlaw07_TransformGreat_2.mk x2.o23) (L_waveportlaw07_TransformGreat_2.mk false) V1))) ∧
      (∀ (x5 : L_waveportlaw07_TransformGreat_2) (V4 : View), View.le V1 V4 → I_waveportlaw07_TransformGreat_2 (C_waveportlaw07_TransformGreat_2.mk x2.o23) x5 V4 →
        (x5.t43 = true →
          ((0 : Int) ≤ (IntKind.i64.wrap ((Int.tmod (IntKind.i64.wrap p0) 70) - 1)) ∧ ((IntKind.i64.wrap ((Int.tmod (IntKind.i64.wrap p0) 70) - 1)) : Int) < (Int.toNat (Int.tmod (IntKind.i64.wrap p0) 70) : Nat)) ∧
          ∃ x10 : Sl, x2.o23[0 + Int.toNat (IntKind.i64.wrap ((Int.tmod (IntKind.i64.wrap p0) 70) - 1)) * 1]? = some (x10.v) ∧
          ((0 : Int) ≤ 0 ∧ (0 : Int) ≤ (IntKind.i64.wrap ((Int.tmod (IntKind.i64.wrap p1) 70) - 1)) ∧ ((IntKind.i64.wrap ((Int.tmod (IntKind.i64.wrap p1) 70) - 1)) : Int) ≤ (x10.cap : Nat)) ∧
          ((0 : Int) ≤ (IntKind.i64.wrap ((Int.tmod (IntKind.i64.wrap p0) 70) - 1)) ∧ ((IntKind.i64.wrap ((Int.tmod (IntKind.i64.wrap p0) 70) - 1)) : Int) < (Int.toNat (Int.tmod (IntKind.i64.wrap p0) 70) : Nat)) ∧
          0 + Int.toNat (IntKind.i64.wrap ((Int.tmod (IntKind.i64.wrap p0) 70) - 1)) * 1 + 1 ≤ List.length x2.o23 ∧
          I_waveportlaw07_TransformGreat_1 () (L_waveportlaw07_TransformGreat_1.mk (List.set x2.o23 (0 + Int.toNat (IntKind.i64.wrap ((Int.tmod (IntKind.i64.wrap p0) 70) - 1)) * 1) (.slice (if x10.cap = Int.toNat 0 then x10.a else Option.map (fun q => Addr.add q (Int.toNat 0 * 1)) x10.a) (Int.toNat (IntKind.i64.wrap ((Int.tmod (IntKind.i64.wrap p1) 70) - 1)) - Int.toNat 0) (x10.cap - Int.toNat 0)))) V4) ∧
        (x5.t43 = false →
          I_waveportlaw07_TransformGreat_1 () (L_waveportlaw07_TransformGreat_1.mk x2.o23) V4))) ∧
    (∀ (x4 : L_waveportlaw07_TransformGreat_1) (V3 : View), View.le V1 V3 → I_waveportlaw07_TransformGreat_1 () x4 V3 →
      ∀ (b2 : Nat) (V5 : View), View.le V3 V5 → V5 b2 = some (List.toArray x4.o23) →
      CallV Try.prog 17 #[(Sl.mk (some (Addr.mk b2 0 none)) (Int.toNat (Int.tmod (IntKind.i64.wrap p0) 70)) (Int.toNat (Int.tmod (IntKind.i64.wrap p0) 70))).v] V5 fun v V6 => ∃ (r1 : GridV) (r2 : Int), v = .tuple #[r1.val, .int .i64 r2] ∧ -- transform.NewGrid[bool]
      CallV Try.prog 18 #[r1.val] V6 fun v V7 => ∃ (r3 : Int) (r4 : Int), v = .tuple #[.int .i64 r3, .int .i64 r4] ∧ -- (transform.Grid[bool]).Size
      (((decide (((Int.tmod (IntKind.i64.wrap p0) 70) : Int) ≥ 1)) = true →
        ((decide (((Int.tmod (IntKind.i64.wrap p0) 70) : Int) ≤ 64)) = true →
        ((decide (((Int.tmod (IntKind.i64.wrap p1) 70) : Int) ≥ 1)) = true →
        ((decide (((Int.tmod (IntKind.i64.wrap p1) 70) : Int) ≤ 64)) = true →
        (p2 = true →
        I_waveportlaw07_TransformGreat_3 (C_waveportlaw07_TransformGreat_3.mk r2 r3 r4) (L_waveportlaw07_TransformGreat_3.mk (!(decide (((Int.tmod (IntKind.i64.wrap p0) 70) : Int) > 1)))) V7) ∧
        (p2 = false →
        I_waveportlaw07_TransformGreat_3 (C_waveportlaw07_TransformGreat_3.mk r2 r3 r4) (L_waveportlaw07_TransformGreat_3.mk (!false)) V7)) ∧
        ((decide (((Int.tmod (IntKind.i64.wrap p1) 70) : Int) ≤ 64)) = false →
        I_waveportlaw07_TransformGreat_3 (C_waveportlaw07_TransformGreat_3.mk r2 r3 r4) (L_waveportlaw07_TransformGreat_3.mk false) V7)) ∧
        ((decide (((Int.tmod (IntKind.i64.wrap p1) 70) : Int) ≥ 1)) = false →
        (false = true →
        (p2 = true →
        I_waveportlaw07_TransformGreat_3 (C_waveportlaw07_TransformGreat_3.mk r2 r3 r4) (L_waveportlaw07_TransformGreat_3.mk (!(decide (((Int.tmod (IntKind.i64.wrap p0) 70) : Int) > 1)))) V7) ∧
        (p2 = false →
        I_waveportlaw07_TransformGreat_3 (C_waveportlaw07_TransformGreat_3.mk r2 r3 r4) (L_waveportlaw07_TransformGreat_3.mk (!false)) V7)) ∧
        (false = false →
        I_waveportlaw07_TransformGreat_3 (C_waveportlaw07_TransformGreat_3.mk r2 r3 r4) (L_waveportlaw07_TransformGreat_3.mk false) V7))) ∧
        ((decide (((Int.tmod (IntKind.i64.wrap p0) 70) : Int) ≤ 64)) = false →
        (false = true →
        ((decide (((Int.tmod (IntKind.i64.wrap p1) 70) : Int) ≤ 64)) = true →
        (p2 = true →
        I_waveportlaw07_TransformGreat_3 (C_waveportlaw07_TransformGreat_3.mk r2 r3 r4) (L_waveportlaw07_TransformGreat_3.mk (!(decide (((Int.tmod (IntKind.i64.wrap p0) 70) : Int) > 1)))) V7) ∧
        (p2 = false →
        I_waveportlaw07_TransformGreat_3 (C_waveportlaw07_TransformGreat_3.mk r2 r3 r4) (L_waveportlaw07_TransformGreat_3.mk (!false)) V7)) ∧
        ((decide (((Int.tmod (IntKind.i64.wrap p1) 70) : Int) ≤ 64)) = false →
        I_waveportlaw07_TransformGreat_3 (C_waveportlaw07_TransformGreat_3.mk r2 r3 r4) (L_waveportlaw07_TransformGreat_3.mk false) V7)) ∧
        (false = false →
        (false = true →
        (p2 = true →
        I_waveportlaw07_TransformGreat_3 (C_waveportlaw07_TransformGreat_3.mk r2 r3 r4) (L_waveportlaw07_TransformGreat_3.mk (!(decide (((Int.tmod (IntKind.i64.wrap p0) 70) : Int) > 1)))) V7) ∧
        (p2 = false →
        I_waveportlaw07_TransformGreat_3 (C_waveportlaw07_TransformGreat_3.mk r2 r3 r4) (L_waveportlaw07_TransformGreat_3.mk (!false)) V7)) ∧
        (false = false →
        I_waveportlaw07_TransformGreat_3 (C_waveportlaw07_TransformGreat_3.mk r2 r3 r4) (L_waveportlaw07_TransformGreat_3.mk false) V7)))) ∧
        ((decide (((Int.tmod (IntKind.i64.wrap p0) 70) : Int) ≥ 1)) = false →
        (false = true →
        ((decide (((Int.tmod (IntKind.i64.wrap p1) 70) : Int) ≥ 1)) = true →
        ((decide (((Int.tmod (IntKind.i64.wrap p1) 70) : Int) ≤ 64)) = true →
        (p2 = true →
        I_waveportlaw07_TransformGreat_3 (C_waveportlaw07_TransformGreat_3.mk r2 r3 r4) (L_waveportlaw07_TransformGreat_3.mk (!(decide (((Int.tmod (IntKind.i64.wrap p0) 70) : Int) > 1)))) V7) ∧
        (p2 = false →
        I_waveportlaw07_TransformGreat_3 (C_waveportlaw07_TransformGreat_3.mk r2 r3 r4) (L_waveportlaw07_TransformGreat_3.mk (!false)) V7)) ∧
        ((decide (((Int.tmod (IntKind.i64.wrap p1) 70) : Int) ≤ 64)) = false →
        I_waveportlaw07_TransformGreat_3 (C_waveportlaw07_TransformGreat_3.mk r2 r3 r4) (L_waveportlaw07_TransformGreat_3.mk false) V7)) ∧
        ((decide (((Int.tmod (IntKind.i64.wrap p1) 70) : Int) ≥ 1)) = false →
        (false = true →
        (p2 = true →
        I_waveportlaw07_TransformGreat_3 (C_waveportlaw07_TransformGreat_3.mk r2 r3 r4) (L_waveportlaw07_TransformGreat_3.mk (!(decide (((Int.tmod (IntKind.i64.wrap p0) 70) : Int) > 1)))) V7) ∧
        (p2 = false →
        I_waveportlaw07_TransformGreat_3 (C_waveportlaw07_TransformGreat_3.mk r2 r3 r4) (L_waveportlaw07_TransformGreat_3.mk (!false)) V7)) ∧
        (false = false →
        I_waveportlaw07_TransformGreat_3 (C_waveportlaw07_TransformGreat_3.mk r2 r3 r4) (L_waveportlaw07_TransformGreat_3.mk false) V7))) ∧
        (false = false →
        (false = true →
        ((decide (((Int.tmod (IntKind.i64.wrap p1) 70) : Int) ≤ 64)) = true →
        (p2 = true →
        I_waveportlaw07_TransformGreat_3 (C_waveportlaw07_TransformGreat_3.mk r2 r3 r4) (L_waveportlaw07_TransformGreat_3.mk (!(decide (((Int.tmod (IntKind.i64.wrap p0) 70) : Int) > 1)))) V7) ∧
        (p2 = false →
        I_waveportlaw07_TransformGreat_3 (C_waveportlaw07_TransformGreat_3.mk r2 r3 r4) (L_waveportlaw07_TransformGreat_3.mk (!false)) V7)) ∧
        ((decide (((Int.tmod (IntKind.i64.wrap p1) 70) : Int) ≤ 64)) = false →
        I_waveportlaw07_TransformGreat_3 (C_waveportlaw07_TransformGreat_3.mk r2 r3 r4) (L_waveportlaw07_TransformGreat_3.mk false) V7)) ∧
        (false = false →
        (false = true →
        (p2 = true →
        I_waveportlaw07_TransformGreat_3 (C_waveportlaw07_TransformGreat_3.mk r2 r3 r4) (L_waveportlaw07_TransformGreat_3.mk (!(decide (((Int.tmod (IntKind.i64.wrap p0) 70) : Int) > 1)))) V7) ∧
        (p2 = false →
        I_waveportlaw07_TransformGreat_3 (C_waveportlaw07_TransformGreat_3.mk r2 r3 r4) (L_waveportlaw07_TransformGreat_3.mk (!false)) V7)) ∧
        (false = false →
        I_waveportlaw07_TransformGreat_3 (C_waveportlaw07_TransformGreat_3.mk r2 r3 r4) (L_waveportlaw07_TransformGreat_3.mk false) V7))))) ∧
      (∀ (x13 : L_waveportlaw07_TransformGreat_3) (V8 : View), View.le V7 V8 → I_waveportlaw07_TransformGreat_3 (C_waveportlaw07_TransformGreat_3.mk r2 r3 r4) x13 V8 →
        ((!x13.t15) = true →
          (((r2 : Int) == 4) = true →
          (((r3 : Int) == 0) = true →
          (((r4 : Int) == 0) = true →
          CallV Try.prog 16 #[] V8 fun v V9 => ∃ r5 : Bool, v = .bool r5 ∧ -- waveportlaw07.awake
          R (.bool r5) V9) ∧
          (((r4 : Int) == 0) = false →
          R (.bool false) V8)) ∧
          (((r3 : Int) == 0) = false →
          (false = true →
          CallV Try.prog 16 #[] V8 fun v V10 => ∃ r6 : Bool, v = .bool r6 ∧ -- waveportlaw07.awake
          R (.bool r6) V10) ∧
          (false = false →
          R (.bool false) V8))) ∧
          (((r2 : Int) == 4) = false →
          (false = true →
          (((r4 : Int) == 0) = true →
          CallV Try.prog 16 #[] V8 fun v V11 => ∃ r7 : Bool, v = .bool r7 ∧ -- waveportlaw07.awake
          R (.bool r7) V11) ∧
          (((r4 : Int) == 0) = false →
          R (.bool false) V8)) ∧
          (false = false →
          (false = true →
          CallV Try.prog 16 #[] V8 fun v V12 => ∃ r8 : Bool, v = .bool r8 ∧ -- waveportlaw07.awake
          R (.bool r8) V12) ∧
          (false = false →
          R (.bool false) V8)))) ∧
        ((!x13.t15) = false →
          (((r2 : Int) == 0) = true →
        (((r3 : Int) == (Int.tmod (IntKind.i64.wrap p0) 70)) = true →
        (((r4 : Int) == (Int.tmod (IntKind.i64.wrap p1) 70)) = true →
        CallV Try.prog 16 #[] V8 fun v V13 => ∃ r9 : Bool, v = .bool r9 ∧ -- waveportlaw07.awake
        R (.bool r9) V13) ∧
        (((r4 : Int) == (Int.tmod (IntKind.i64.wrap p1) 70)) = false →
        R (.bool false) V8)) ∧
        (((r3 : Int) == (Int.tmod (IntKind.i64.wrap p0) 70)) = false →
        (false = true →
        CallV Try.prog 16 #[] V8 fun v V14 => ∃ r10 : Bool, v = .bool r10 ∧ -- waveportlaw07.awake
        R (.bool r10) V14) ∧
        (false = false →
        R (.bool false) V8))) ∧
        (((r2 : Int) == 0) = false →
        (false = true →
        (((r4 : Int) == (Int.tmod (IntKind.i64.wrap p1) 70)) = true →
        CallV Try.prog 16 #[] V8 fun v V15 => ∃ r11 : Bool, v = .bool r11 ∧ -- waveportlaw07.awake
        R (.bool r11) V15) ∧
        (((r4 : Int) == (Int.tmod (IntKind.i64.wrap p1) 70)) = false →
        R (.bool false) V8)) ∧
        (false = false →
        (false = true →
        CallV Try.prog 16 #[] V8 fun v V16 => ∃ r12 : Bool, v = .bool r12 ∧ -- waveportlaw07.awake
        R (.bool r12) V16) ∧
        (false = false →
        R (.bool false) V8))))))))) :
  CallV Try.prog 4 #[.int .u8 p0, .int .u8 p1, .bool p2] V R :=
  calls_of_vc (Shp := Shp) hmixed Try.func4 (c := Try.f4.body.getD .skip) (args := [.int .u8 p0, .int .u8 p1, .bool p2]) (by kernel_rfl)
    (.seq (.reg [⟨6, 2, false⟩]) (.seq (.reg [⟨16, 2, false⟩, ⟨17, 0, false⟩, ⟨18, 0, false⟩, ⟨19, 2, false⟩, ⟨20, 0, false⟩, ⟨21, 0, false⟩, ⟨7, 2, false⟩, ⟨8, 2, false⟩]) (.seq (.reg [⟨22, 2, false⟩, ⟨23, 3, false⟩, ⟨9, 2, false⟩]) (.seq (.seq (.reg [⟨24, 2, false⟩, ⟨25, 7, false⟩, ⟨26, 2, false⟩]) (.block (.loop Unit L_waveportlaw07_TransformGreat_0 (fun _ => ()) (fun c x => { tm := spT 118 0 [(2, .val (.bool p2)), (7, .val (.int .i64 (Int.tmod (IntKind.i64.wrap p0) 70))), (8, .val (.int .i64 (Int.tmod (IntKind.i64.wrap p1) 70))), (9, .osl 23 0 (Int.toNat (Int.tmod (IntKind.i64.wrap p0) 70)) (Int.toNat (Int.tmod (IntKind.i64.wrap p0) 70))), (25, .val (.int .i64 ((Int.toNat (Int.tmod (IntKind.i64.wrap p0) 70) : Nat) : Int))), (26, .val (.int .i64 x.t26))], own := spO 118 0 [(23, ⟨38, .dyn x.o23⟩)] }) I_waveportlaw07_TransformGreat_0 mu_waveportlaw07_TransformGreat_0 (.seq (.reg [⟨27, 0, false⟩]) (.seq (.cond .leaf .leaf) (.seq (.block (.seq (.reg [⟨28, 2, false⟩, ⟨10, 2, false⟩]) (.reg [⟨29, 2, false⟩, ⟨30, 2, false⟩, ⟨31, 2, false⟩, ⟨32, 17, false⟩, ⟨33, 7, false⟩, ⟨23, 6, false⟩]))) (.reg [⟨34, 0, false⟩, ⟨26, 2, false⟩]))))))) (.cut Unit L_waveportlaw07_TransformGreat_1 (fun _ => ()) (fun c x => { tm := spT 118 0 [(2, .val (.bool p2)), (7, .val (.int .i64 (Int.tmod (IntKind.i64.wrap p0) 70))), (8, .val (.int .i64 (Int.tmod (IntKind.i64.wrap p1) 70))), (9, .osl 23 0 (Int.toNat (Int.tmod (IntKind.i64.wrap p0) 70)) (Int.toNat (Int.tmod (IntKind.i64.wrap p0) 70)))], own := spO 118 0 [(23, ⟨38, .dyn x.o23⟩)] }) I_waveportlaw07_TransformGreat_1 (.cut C_waveportlaw07_TransformGreat_2 L_waveportlaw07_TransformGreat_2 (fun σ => C_waveportlaw07_TransformGreat_2.mk (gDyn σ 23)) (fun c x => { tm := spT 118 0 [(2, .val (.bool p2)), (7, .val (.int .i64 (Int.tmod (IntKind.i64.wrap p0) 70))), (8, .val (.int .i64 (Int.tmod (IntKind.i64.wrap p1) 70))), (9, .osl 23 0 (Int.toNat (Int.tmod (IntKind.i64.wrap p0) 70)) (Int.toNat (Int.tmod (IntKind.i64.wrap p0) 70))), (43, .val (.bool x.t43))], own := spO 118 0 [(23, ⟨38, .dyn c.o23⟩)] }) I_waveportlaw07_TransformGreat_2 (.reg [⟨35, 2, false⟩, ⟨36, 2, true⟩, ⟨37, 2, false⟩, ⟨38, 0, false⟩, ⟨39, 2, false⟩, ⟨40, 2, true⟩, ⟨41, 2, false⟩, ⟨42, 0, false⟩, ⟨43, 2, false⟩]) (.cond (.reg [⟨44, 2, false⟩, ⟨45, 2, false⟩, ⟨46, 0, false⟩, ⟨47, 2, false⟩, ⟨48, 2, false⟩, ⟨49, 0, false⟩, ⟨50, 7, false⟩, ⟨23, 4, false⟩, ⟨52, 2, false⟩, ⟨53, 0, false⟩, ⟨54, 7, false⟩, ⟨55, 7, false⟩, ⟨23, 6, false⟩]) .leaf)) (.seq (.pub 23 (.reg [⟨57, 2, false⟩, ⟨58, 10, false⟩, ⟨56, 2, false⟩, ⟨59, 0, false⟩, ⟨60, 0, false⟩, ⟨11, 3, false⟩, ⟨11, 6, false⟩, ⟨12, 2, false⟩])) (.seq (.reg [⟨11, 4, false⟩, ⟨63, 10, false⟩, ⟨61, 2, false⟩, ⟨64, 0, false⟩, ⟨65, 0, false⟩, ⟨13, 2, false⟩, ⟨14, 2, false⟩]) (.cut C_waveportlaw07_TransformGreat_3 L_waveportlaw07_TransformGreat_3 (fun σ => C_waveportlaw07_TransformGreat_3.mk (gInt (gTm σ 12)) (gInt (gTm σ 13)) (gInt (gTm σ 14))) (fun c x => { tm := spT 118 0 [(7, .val (.int .i64 (Int.tmod (IntKind.i64.wrap p0) 70))), (8, .val (.int .i64 (Int.tmod (IntKind.i64.wrap p1) 70))), (12, .val (.int .i64 c.t12)), (13, .val (.int .i64 c.t13)), (14, .val (.int .i64 c.t14)), (15, .val (.bool x.t15))], own := spO 118 0 [] }) I_waveportlaw07_TransformGreat_3 (.reg [⟨66, 2, false⟩, ⟨67, 0, false⟩, ⟨68, 2, true⟩, ⟨69, 2, false⟩, ⟨70, 0, false⟩, ⟨71, 2, false⟩, ⟨72, 2, true⟩, ⟨73, 2, false⟩, ⟨74, 0, false⟩, ⟨75, 2, false⟩, ⟨76, 2, true⟩, ⟨77, 2, false⟩, ⟨78, 0, false⟩, ⟨79, 2, false⟩, ⟨80, 2, true⟩, ⟨81, 2, false⟩, ⟨82, 2, true⟩, ⟨83, 2, false⟩, ⟨84, 0, false⟩, ⟨85, 2, false⟩, ⟨86, 0, false⟩, ⟨87, 2, false⟩, ⟨15, 2, false⟩]) (.seq (.seq (.reg [⟨88, 2, false⟩, ⟨89, 0, false⟩]) (.cond (.seq (.reg [⟨90, 2, false⟩, ⟨91, 0, false⟩, ⟨92, 2, true⟩, ⟨93, 2, false⟩, ⟨94, 0, false⟩, ⟨95, 2, false⟩, ⟨96, 2, true⟩, ⟨97, 2, false⟩, ⟨98, 0, false⟩, ⟨99, 2, false⟩, ⟨100, 2, true⟩, ⟨101, 10, false⟩, ⟨102, 2, false⟩, ⟨6, 2, false⟩]) .leaf) .leaf)) (.seq (.reg [⟨103, 2, false⟩, ⟨104, 0, false⟩, ⟨105, 2, true⟩, ⟨106, 2, false⟩, ⟨107, 2, false⟩, ⟨108, 0, false⟩, ⟨109, 2, false⟩, ⟨110, 2, true⟩, ⟨111, 2, false⟩, ⟨112, 2, false⟩, ⟨113, 0, false⟩, ⟨114, 2, false⟩, ⟨115, 2, true⟩, ⟨116, 10, false⟩, ⟨117, 2, false⟩, ⟨6, 2, false⟩]) .leaf))))))))))
    (Eq.mpr (by kernel_rfl) (show ((0 : Int) ≤ (Int.tmod (IntKind.i64.wrap p0) 70) ∧ ((Int.tmod (IntKind.i64.wrap p0) 70) : Int) ≤ (Int.tmod (IntKind.i64.wrap p0) 70) ∧ (24 : Int) * (Int.tmod (IntKind.i64.wrap p0) 70) ≤ 281474976710656 ∧ ((Int.tmod (IntKind.i64.wrap p0) 70) : Int) ≤ 9223372036854775807) ∧
    (∃ x1 : L_waveportlaw07_TransformGreat_0, ((SV.val (.bool p2) = SV.val (.bool p2) ∧ SV.val (.int .i64 (Int.tmod (IntKind.i64.wrap p0) 70)) = SV.val (.int .i64 (Int.tmod (IntKind.i64.wrap p0) 70)) ∧ SV.val (.int .i64 (Int.tmod (IntKind.i64.wrap p1) 70)) = SV.val (.int .i64 (Int.tmod (IntKind.i64.wrap p1) 70)) ∧ SV.osl 23 0 (Int.toNat (Int.tmod (IntKind.i64.wrap p0) 70)) (Int.toNat (Int.tmod (IntKind.i64.wrap p0) 70)) = SV.osl 23 0 (Int.toNat (Int.tmod (IntKind.i64.wrap p0) 70)) (Int.toNat (Int.tmod (IntKind.i64.wrap p0) 70)) ∧ SV.val (.int .i64 ((Int.toNat (Int.tmod (IntKind.i64.wrap p0) 70) : Nat) : Int)) = SV.val (.int .i64 ((Int.toNat (Int.tmod (IntKind.i64.wrap p0) 70) : Nat) : Int)) ∧ SV.val (.int .i64 0) = SV.val (.int .i64 x1.t26) ∧ True) ∧ ((some (⟨38, .dyn ((List.replicate (Int.toNat (Int.tmod (IntKind.i64.wrap p0) 70)) [Value.slice none 0 0]).flatten)⟩) : Option OB) = some (⟨38, .dyn x1.o23⟩) ∧ True)) ∧ I_waveportlaw07_TransformGreat_0 () x1 V) ∧
    (∀ (x2 : L_waveportlaw07_TransformGreat_0) (V1 : View), View.le V V1 → I_waveportlaw07_TransformGreat_0 () x2 V1 →
      ((decide ((x2.t26 : Int) < ((Int.toNat (Int.tmod (IntKind.i64.wrap p0) 70) : Nat) : Int))) = true →
        ((0 : Int) ≤ (Int.tmod (IntKind.i64.wrap p1) 70) ∧ ((Int.tmod (IntKind.i64.wrap p1) 70) : Int) ≤ (Int.tmod (IntKind.i64.wrap p1) 70) ∧ (1 : Int) * (Int.tmod (IntKind.i64.wrap p1) 70) ≤ 281474976710656 ∧ ((Int.tmod (IntKind.i64.wrap p1) 70) : Int) ≤ 9223372036854775807) ∧
      ∀ (b1 : Nat) (V2 : View), View.le V1 V2 → View.Fin V2 → V2 b1 = some (List.toArray (List.replicate (Int.toNat (Int.tmod (IntKind.i64.wrap p1) 70)) [Value.bool false]).flatten) →
      ((0 : Int) ≤ x2.t26 ∧ (x2.t26 : Int) < (Int.toNat (Int.tmod (IntKind.i64.wrap p0) 70) : Nat)) ∧
      0 + Int.toNat x2.t26 * 1 + 1 ≤ List.length x2.o23 ∧
      ∃ x3 : L_waveportlaw07_TransformGreat_0, ((SV.val (.bool p2) = SV.val (.bool p2) ∧ SV.val (.int .i64 (Int.tmod (IntKind.i64.wrap p0) 70)) = SV.val (.int .i64 (Int.tmod (IntKind.i64.wrap p0) 70)) ∧ SV.val (.int .i64 (Int.tmod (IntKind.i64.wrap p1) 70)) = SV.val (.int .i64 (Int.tmod (IntKind.i64.wrap p1) 70)) ∧ SV.osl 23 0 (Int.toNat (Int.tmod (IntKind.i64.wrap p0) 70)) (Int.toNat (Int.tmod (IntKind.i64.wrap p0) 70)) = SV.osl 23 0 (Int.toNat (Int.tmod (IntKind.i64.wrap p0) 70)) (Int.toNat (Int.tmod (IntKind.i64.wrap p0) 70)) ∧ SV.val (.int .i64 ((Int.toNat (Int.tmod (IntKind.i64.wrap p0) 70) : Nat) : Int)) = SV.val (.int .i64 ((Int.toNat (Int.tmod (IntKind.i64.wrap p0) 70) : Nat) : Int)) ∧ SV.val (.int .i64 (IntKind.i64.wrap (x2.t26 + 1))) = SV.val (.int .i64 x3.t26) ∧ True) ∧ ((some (⟨38, .dyn (List.set x2.o23 (0 + Int.toNat x2.t26 * 1) (.slice (some (Addr.mk b1 0 none)) (Int.toNat (Int.tmod (IntKind.i64.wrap p1) 70)) (Int.toNat (Int.tmod (IntKind.i64.wrap p1) 70))))⟩) : Option OB) = some (⟨38, .dyn x3.o23⟩) ∧ True)) ∧ I_waveportlaw07_TransformGreat_0 () x3 V2 ∧ mu_waveportlaw07_TransformGreat_0 () x3 V2 < mu_waveportlaw07_TransformGreat_0 () x2 V1) ∧
      ((decide ((x2.t26 : Int) < ((Int.toNat (Int.tmod (IntKind.i64.wrap p0) 70) : Nat) : Int))) = false →
        (((p2 = true →
        ((decide (((Int.tmod (IntKind.i64.wrap p0) 70) : Int) > 1)) = true →
        ∃ x6 : L_waveportlaw07_TransformGreat_2, ((SV.val (.bool p2) = SV.val (.bool p2) ∧ SV.val (.int .i64 (Int.tmod (IntKind.i64.wrap p0) 70)) = SV.val (.int .i64 (Int.tmod (IntKind.i64.wrap p0) 70)) ∧ SV.val (.int .i64 (Int.tmod (IntKind.i64.wrap p1) 70)) = SV.val (.int .i64 (Int.tmod (IntKind.i64.wrap p1) 70)) ∧ SV.osl 23 0 (Int.toNat (Int.tmod (IntKind.i64.wrap p0) 70)) (Int.toNat (Int.tmod (IntKind.i64.wrap p0) 70)) = SV.osl 23 0 (Int.toNat (Int.tmod (IntKind.i64.wrap p0) 70)) (Int.toNat (Int.tmod (IntKind.i64.wrap p0) 70)) ∧ SV.val (.bool (decide (((Int.tmod (IntKind.i64.wrap p1) 70) : Int) > 0))) = SV.val (.bool x6.t43) ∧ True) ∧ ((some (⟨38, .dyn x2.o23⟩) : Option OB) = some (⟨38, .dyn x2.o23⟩) ∧ True)) ∧ I_waveportlaw07_TransformGreat_2 (C_waveportlaw07_TransformGreat_2.mk x2.o23) x6 V1) ∧
        ((decide (((Int.tmod (IntKind.i64.wrap p0) 70) : Int) > 1)) = false →
        ∃ x7 : L_waveportlaw07_TransformGreat_2, ((SV.val (.bool p2) = SV.val (.bool p2) ∧ SV.val (.int .i64 (Int.tmod (IntKind.i64.wrap p0) 70)) = SV.val (.int .i64 (Int.tmod (IntKind.i64.wrap p0) 70)) ∧ SV.val (.int .i64 (Int.tmod (IntKind.i64.wrap p1) 70)) = SV.val (.int .i64 (Int.tmod (IntKind.i64.wrap p1) 70)) ∧ SV.osl 23 0 (Int.toNat (Int.tmod (IntKind.i64.wrap p0) 70)) (Int.toNat (Int.tmod (IntKind.i64.wrap p0) 70)) = SV.osl 23 0 (Int.toNat (Int.tmod (IntKind.i64.wrap p0) 70)) (Int.toNat (Int.tmod (IntKind.i64.wrap p0) 70)) ∧ SV.val (.bool false) = SV.val (.bool x7.t43) ∧ True) ∧ ((some (⟨38, .dyn x2.o23⟩) : Option OB) = some (⟨38, .dyn x2.o23⟩) ∧ True)) ∧ I_waveportlaw07_TransformGreat_2 (C_waveportlaw07_TransformGreat_2.mk x2.o23) x7 V1)) ∧
        (p2 = false →
        (false = true →
        ∃ x8 : L_waveportlaw07_TransformGreat_2, ((SV.val (.bool p2) = SV.val (.bool p2) ∧ SV.val (.int .i64 (Int.tmod (IntKind.i64.wrap p0) 70)) = SV.val (.int .i64 (Int.tmod (IntKind.i64.wrap p0) 70)) ∧ SV.val (.int .i64 (Int.tmod (IntKind.i64.wrap p1) 70)) = SV.val (.int .i64 (Int.tmod (IntKind.i64.wrap p1) 70)) ∧ SV.osl 23 0 (Int.toNat (Int.tmod (IntKind.i64.wrap p0) 70)) (Int.toNat (Int.tmod (IntKind.i64.wrap p0) 70)) = SV.osl 23 0 (Int.toNat (Int.tmod (IntKind.i64.wrap p0) 70)) (Int.toNat (Int.tmod (IntKind.i64.wrap p0) 70)) ∧ SV.val (.bool (decide (((Int.tmod (IntKind.i64.wrap p1) 70) : Int) > 0))) = SV.val (.bool x8.t43) ∧ True) ∧ ((some (⟨38, .dyn x2.o23⟩) : Option OB) = some (⟨38, .dyn x2.o23⟩) ∧ True)) ∧ I_waveportlaw07_TransformGreat_2 (C_waveportlaw07_TransformGreat_2.mk x2.o23) x8 V1) ∧
        (false = false →
        ∃ x9 : L_waveportlaw07_TransformGreat_2, ((SV.val (.bool p2) = SV.val (.bool p2) ∧ SV.val (.int .i64 (Int.tmod (IntKind.i64.wrap p0) 70)) = SV.val (.int .i64 (Int.tmod (IntKind.i64.wrap p0) 70)) ∧ SV.val (.int .i64 (Int.tmod (IntKind.i64.wrap p1) 70)) = SV.val (.int .i64 (Int.tmod (IntKind.i64.wrap p1) 70)) ∧ SV.osl 23 0 (Int.toNat (Int.tmod (IntKind.i64.wrap p0) 70)) (Int.toNat (Int.tmod (IntKind.i64.wrap p0) 70)) = SV.osl 23 0 (Int.toNat (Int.tmod (IntKind.i64.wrap p0) 70)) (Int.toNat (Int.tmod (IntKind.i64.wrap p0) 70)) ∧ SV.val (.bool false) = SV.val (.bool x9.t43) ∧ True) ∧ ((some (⟨38, .dyn x2.o23⟩) : Option OB) = some (⟨38, .dyn x2.o23⟩) ∧ True)) ∧ I_waveportlaw07_TransformGreat_2 (C_waveportlaw07_TransformGreat_2.mk x2.o23) x9 V1))) ∧
      (∀ (x5 : L_waveportlaw07_TransformGreat_2) (V4 : View), View.le V1 V4 → I_waveportlaw07_TransformGreat_2 (C_waveportlaw07_TransformGreat_2.mk x2.o23) x5 V4 →
        (x5.t43 = true →
          ((0 : Int) ≤ (IntKind.i64.wrap ((Int.tmod (IntKind.i64.wrap p0) 70) - 1)) ∧ ((IntKind.i64.wrap ((Int.tmod (IntKind.i64.wrap p0) 70) - 1)) : Int) < (Int.toNat (Int.tmod (IntKind.i64.wrap p0) 70) : Nat)) ∧
          ∃ x10 : Sl, x2.o23[0 + Int.toNat (IntKind.i64.wrap ((Int.tmod (IntKind.i64.wrap p0) 70) - 1)) * 1]? = some (x10.v) ∧
          ((0 : Int) ≤ 0 ∧ (0 : Int) ≤ (IntKind.i64.wrap ((Int.tmod (IntKind.i64.wrap p1) 70) - 1)) ∧ ((IntKind.i64.wrap ((Int.tmod (IntKind.i64.wrap p1) 70) - 1)) : Int) ≤ (x10.cap : Nat)) ∧
          ((0 : Int) ≤ (IntKind.i64.wrap ((Int.tmod (IntKind.i64.wrap p0) 70) - 1)) ∧ ((IntKind.i64.wrap ((Int.tmod (IntKind.i64.wrap p0) 70) - 1)) : Int) < (Int.toNat (Int.tmod (IntKind.i64.wrap p0) 70) : Nat)) ∧
          0 + Int.toNat (IntKind.i64.wrap ((Int.tmod (IntKind.i64.wrap p0) 70) - 1)) * 1 + 1 ≤ List.length x2.o23 ∧
          ∃ x11 : L_waveportlaw07_TransformGreat_1, ((SV.val (.bool p2) = SV.val (.bool p2) ∧ SV.val (.int .i64 (Int.tmod (IntKind.i64.wrap p0) 70)) = SV.val (.int .i64 (Int.tmod (IntKind.i64.wrap p0) 70)) ∧ SV.val (.int .i64 (Int.tmod (IntKind.i64.wrap p1) 70)) = SV.val (.int .i64 (Int.tmod (IntKind.i64.wrap p1) 70)) ∧ SV.osl 23 0 (Int.toNat (Int.tmod (IntKind.i64.wrap p0) 70)) (Int.toNat (Int.tmod (IntKind.i64.wrap p0) 70)) = SV.osl 23 0 (Int.toNat (Int.tmod (IntKind.i64.wrap p0) 70)) (Int.toNat (Int.tmod (IntKind.i64.wrap p0) 70)) ∧ True) ∧ ((some (⟨38, .dyn (List.set x2.o23 (0 + Int.toNat (IntKind.i64.wrap ((Int.tmod (IntKind.i64.wrap p0) 70) - 1)) * 1) (.slice (if x10.cap = Int.toNat 0 then x10.a else Option.map (fun q => Addr.add q (Int.toNat 0 * 1)) x10.a) (Int.toNat (IntKind.i64.wrap ((Int.tmod (IntKind.i64.wrap p1) 70) - 1)) - Int.toNat 0) (x10.cap - Int.toNat 0)))⟩) : Option OB) = some (⟨38, .dyn x11.o23⟩) ∧ True)) ∧ I_waveportlaw07_TransformGreat_1 () x11 V4) ∧
        (x5.t43 = false →
          ∃ x12 : L_waveportlaw07_TransformGreat_1, ((SV.val (.bool p2) = SV.val (.bool p2) ∧ SV.val (.int .i64 (Int.tmod (IntKind.i64.wrap p0) 70)) = SV.val (.int .i64 (Int.tmod (IntKind.i64.wrap p0) 70)) ∧ SV.val (.int .i64 (Int.tmod (IntKind.i64.wrap p1) 70)) = SV.val (.int .i64 (Int.tmod (IntKind.i64.wrap p1) 70)) ∧ SV.osl 23 0 (Int.toNat (Int.tmod (IntKind.i64.wrap p0) 70)) (Int.toNat (Int.tmod (IntKind.i64.wrap p0) 70)) = SV.osl 23 0 (Int.toNat (Int.tmod (IntKind.i64.wrap p0) 70)) (Int.toNat (Int.tmod (IntKind.i64.wrap p0) 70)) ∧ True) ∧ ((some (⟨38, .dyn x2.o23⟩) : Option OB) = some (⟨38, .dyn x12.o23⟩) ∧ True)) ∧ I_waveportlaw07_TransformGreat_1 () x12 V4))) ∧
    (∀ (x4 : L_waveportlaw07_TransformGreat_1) (V3 : View), View.le V1 V3 → I_waveportlaw07_TransformGreat_1 () x4 V3 →
      ∀ (b2 : Nat) (V5 : View), View.le V3 V5 → V5 b2 = some (List.toArray x4.o23) →
      CallV Try.prog 17 #[(Sl.mk (some (Addr.mk b2 0 none)) (Int.toNat (Int.tmod (IntKind.i64.wrap p0) 70)) (Int.toNat (Int.tmod (IntKind.i64.wrap p0) 70))).v] V5 fun v V6 => ∃ (r1 : GridV) (r2 : Int), v = .tuple #[r1.val, .int .i64 r2] ∧ -- transform.NewGrid[bool]
      CallV Try.prog 18 #[r1.val] V6 fun v V7 => ∃ (r3 : Int) (r4 : Int), v = .tuple #[.int .i64 r3, .int .i64 r4] ∧ -- (transform.Grid[bool]).Size
      (((decide (((Int.tmod (IntKind.i64.wrap p0) 70) : Int) ≥ 1)) = true →
        ((decide (((Int.tmod (IntKind.i64.wrap p0) 70) : Int) ≤ 64)) = true →
        ((decide (((Int.tmod (IntKind.i64.wrap p1) 70) : Int) ≥ 1)) = true →
        ((decide (((Int.tmod (IntKind.i64.wrap p1) 70) : Int) ≤ 64)) = true →
        (p2 = true →
        ∃ x14 : L_waveportlaw07_TransformGreat_3, ((SV.val (.int .i64 (Int.tmod (IntKind.i64.wrap p0) 70)) = SV.val (.int .i64 (Int.tmod (IntKind.i64.wrap p0) 70)) ∧ SV.val (.int .i64 (Int.tmod (IntKind.i64.wrap p1) 70)) = SV.val (.int .i64 (Int.tmod (IntKind.i64.wrap p1) 70)) ∧ SV.val (.int .i64 r2) = SV.val (.int .i64 r2) ∧ SV.val (.int .i64 r3) = SV.val (.int .i64 r3) ∧ SV.val (.int .i64 r4) = SV.val (.int .i64 r4) ∧ SV.val (.bool (!(decide (((Int.tmod (IntKind.i64.wrap p0) 70) : Int) > 1)))) = SV.val (.bool x14.t15) ∧ True) ∧ (True)) ∧ I_waveportlaw07_TransformGreat_3 (C_waveportlaw07_TransformGreat_3.mk r2 r3 r4) x14 V7) ∧
        (p2 = false →
        ∃ x15 : L_waveportlaw07_TransformGreat_3, ((SV.val (.int .i64 (Int.tmod (IntKind.i64.wrap p0) 70)) = SV.val (.int .i64 (Int.tmod (IntKind.i64.wrap p0) 70)) ∧ SV.val (.int .i64 (Int.tmod (IntKind.i64.wrap p1) 70)) = SV.val (.int .i64 (Int.tmod (IntKind.i64.wrap p1) 70)) ∧ SV.val (.int .i64 r2) = SV.val (.int .i64 r2) ∧ SV.val (.int .i64 r3) = SV.val (.int .i64 r3) ∧ SV.val (.int .i64 r4) = SV.val (.int .i64 r4) ∧ SV.val (.bool (!false)) = SV.val (.bool x15.t15) ∧ True) ∧ (True)) ∧ I_waveportlaw07_TransformGreat_3 (C_waveportlaw07_TransformGreat_3.mk r2 r3 r4) x15 V7)) ∧
        ((decide (((Int.tmod (IntKind.i64.wrap p1) 70) : Int) ≤ 64)) = false →
        ∃ x16 : L_waveportlaw07_TransformGreat_3, ((SV.val (.int .i64 (Int.tmod (IntKind.i64.wrap p0) 70)) = SV.val (.int .i64 (Int.tmod (IntKind.i64.wrap p0) 70)) ∧ SV.val (.int .i64 (Int.tmod (IntKind.i64.wrap p1) 70)) = SV.val (.int .i64 (Int.tmod (IntKind.i64.wrap p1) 70)) ∧ SV.val (.int .i64 r2) = SV.val (.int .i64 r2) ∧ SV.val (.int .i64 r3) = SV.val (.int .i64 r3) ∧ SV.val (.int .i64 r4) = SV.val (.int .i64 r4) ∧ SV.val (.bool false) = SV.val (.bool x16.t15) ∧ True) ∧ (True)) ∧ I_waveportlaw07_TransformGreat_3 (C_waveportlaw07_TransformGreat_3.mk r2 r3 r4) x16 V7)) ∧
        ((decide (((Int.tmod (IntKind.i64.wrap p1) 70) : Int) ≥ 1)) = false →
        (false = true →
        (p2 = true →
        ∃ x17 : L_waveportlaw07_TransformGreat_3, ((SV.val (.int .i64 (Int.tmod (IntKind.i64.wrap p0) 70)) = SV.val (.int .i64 (Int.tmod (IntKind.i64.wrap p0) 70)) ∧ SV.val (.int .i64 (Int.tmod (IntKind.i64.wrap p1) 70)) = SV.val (.int .i64 (Int.tmod (IntKind.i64.wrap p1) 70)) ∧ SV.val (.int .i64 r2) = SV.val (.int .i64 r2) ∧ SV.val (.int .i64 r3) = SV.val (.int .i64 r3) ∧ SV.val (.int .i64 r4) = SV.val (.int .i64 r4) ∧ SV.val (.bool (!(decide (((Int.tmod (IntKind.i64.wrap p0) 70) : Int) > 1)))) = SV.val (.bool x17.t15) ∧ True) ∧ (True)) ∧ I_waveportlaw07_TransformGreat_3 (C_waveportlaw07_TransformGreat_3.mk r2 r3 r4) x17 V7) ∧
        (p2 = false →
        ∃ x18 : L_waveportlaw07_TransformGreat_3, ((SV.val (.int .i64 (Int.tmod (IntKind.i64.wrap p0) 70)) = SV.val (.int .i64 (Int.tmod (IntKind.i64.wrap p0) 70)) ∧ SV.val (.int .i64 (Int.tmod (IntKind.i64.wrap p1) 70)) = SV.val (.int .i64 (Int.tmod (IntKind.i64.wrap p1) 70)) ∧ SV.val (.int .i64 r2) = SV.val (.int .i64 r2) ∧ SV.val (.int .i64 r3) = SV.val (.int .i64 r3) ∧ SV.val (.int .i64 r4) = SV.val (.int .i64 r4) ∧ SV.val (.bool (!false)) = SV.val (.bool x18.t15) ∧ True) ∧ (True)) ∧ I_waveportlaw07_TransformGreat_3 (C_waveportlaw07_TransformGreat_3.mk r2 r3 r4) x18 V7)) ∧
        (false = false →
        ∃ x19 : L_waveportlaw07_TransformGreat_3, ((SV.val (.int .i64 (Int.tmod (IntKind.i64.wrap p0) 70)) = SV.val (.int .i64 (Int.tmod (IntKind.i64.wrap p0) 70)) ∧ SV.val (.int .i64 (Int.tmod (IntKind.i64.wrap p1) 70)) = SV.val (.int .i64 (Int.tmod (IntKind.i64.wrap p1) 70)) ∧ SV.val (.int .i64 r2) = SV.val (.int .i64 r2) ∧ SV.val (.int .i64 r3) = SV.val (.int .i64 r3) ∧ SV.val (.int .i64 r4) = SV.val (.int .i64 r4) ∧ SV.val (.bool false) = SV.val (.bool x19.t15) ∧ True) ∧ (True)) ∧ I_waveportlaw07_TransformGreat_3 (C_waveportlaw07_TransformGreat_3.mk r2 r3 r4) x19 V7))) ∧
        ((decide (((Int.tmod (IntKind.i64.wrap p0) 70) : Int) ≤ 64)) = false →
        (false = true →
        ((decide (((Int.tmod (IntKind.i64.wrap p1) 70) : Int) ≤ 64)) = true →
        (p2 = true →
        ∃ x20 : L_waveportlaw07_TransformGreat_3, ((SV.val (.int .i64 (Int.tmod (IntKind.i64.wrap p0) 70)) = SV.val (.int .i64 (Int.tmod (IntKind.i64.wrap p0) 70)) ∧ SV.val (.int .i64 (Int.tmod (IntKind.i64.wrap p1) 70)) = SV.val (.int .i64 (Int.tmod (IntKind.i64.wrap p1) 70)) ∧ SV.val (.int .i64 r2) = SV.val (.int .i64 r2) ∧ SV.val (.int .i64 r3) = SV.val (.int .i64 r3) ∧ SV.val (.int .i64 r4) = SV.val (.int .i64 r4) ∧ SV.val (.bool (!(decide (((Int.tmod (IntKind.i64.wrap p0) 70) : Int) > 1)))) = SV.val (.bool x20.t15) ∧ True) ∧ (True)) ∧ I_waveportlaw07_TransformGreat_3 (C_waveportlaw07_TransformGreat_3.mk r2 r3 r4) x20 V7) ∧
        (p2 = false →
        ∃ x21 : L_waveportlaw07_TransformGreat_3, ((SV.val (.int .i64 (Int.tmod (IntKind.i64.wrap p0) 70)) = SV.val (.int .i64 (Int.tmod (IntKind.i64.wrap p0) 70)) ∧ SV.val (.int .i64 (Int.tmod (IntKind.i64.wrap p1) 70)) = SV.val (.int .i64 (Int.tmod (IntKind.i64.wrap p1) 70)) ∧ SV.val (.int .i64 r2) = SV.val (.int .i64 r2) ∧ SV.val (.int .i64 r3) = SV.val (.int .i64 r3) ∧ SV.val (.int .i64 r4) = SV.val (.int .i64 r4) ∧ SV.val (.bool (!false)) = SV.val (.bool x21.t15) ∧ True) ∧ (True)) ∧ I_waveportlaw07_TransformGreat_3 (C_waveportlaw07_TransformGreat_3.mk r2 r3 r4) x21 V7)) ∧
        ((decide (((Int.tmod (IntKind.i64.wrap p1) 70) : Int) ≤ 64)) = false →
        ∃ x22 : L_waveportlaw07_TransformGreat_3, ((SV.val (.int .i64 (Int.tmod (IntKind.i64.wrap p0) 70)) = SV.val (.int .i64 (Int.tmod (IntKind.i64.wrap p0) 70)) ∧ SV.val (.int .i64 (Int.tmod (IntKind.i64.wrap p1) 70)) = SV.val (.int .i64 (Int.tmod (IntKind.i64.wrap p1) 70)) ∧ SV.val (.int .i64 r2) = SV.val (.int .i64 r2) ∧ SV.val (.int .i64 r3) = SV.val (.int .i64 r3) ∧ SV.val (.int .i64 r4) = SV.val (.int .i64 r4) ∧ SV.val (.bool false) = SV.val (.bool x22.t15) ∧ True) ∧ (True)) ∧ I_waveportlaw07_TransformGreat_3 (C_waveportlaw07_TransformGreat_3.mk r2 r3 r4) x22 V7)) ∧
        (false = false →
        (false = true →
        (p2 = true →
        ∃ x23 : L_waveportlaw07_TransformGreat_3, ((SV.val (.int .i64 (Int.tmod (IntKind.i64.wrap p0) 70)) = SV.val (.int .i64 (Int.tmod (IntKind.i64.wrap p0) 70)) ∧ SV.val (.int .i64 (Int.tmod (IntKind.i64.wrap p1) 70)) = SV.val (.int .i64 (Int.tmod (IntKind.i64.wrap p1) 70)) ∧ SV.val (.int .i64 r2) = SV.val (.int .i64 r2) ∧ SV.val (.int .i64 r3) = SV.val (.int .i64 r3) ∧ SV.val (.int .i64 r4) = SV.val (.int .i64 r4) ∧ SV.val (.bool (!(decide (((Int.tmod (IntKind.i64.wrap p0) 70) : Int) > 1)))) = SV.val (.bool x23.t15) ∧ True) ∧ (True)) ∧ I_waveportlaw07_TransformGreat_3 (C_waveportlaw07_TransformGreat_3.mk r2 r3 r4) x23 V7) ∧
        (p2 = false →
        ∃ x24 : L_waveportlaw07_TransformGreat_3, ((SV.val (.int .i64 (Int.tmod (IntKind.i64.wrap p0) 70)) = SV.val (.int .i64 (Int.tmod (IntKind.i64.wrap p0) 70)) ∧ SV.val (.int .i64 (Int.tmod (IntKind.i64.wrap p1) 70)) = SV.val (.int .i64 (Int.tmod (IntKind.i64.wrap p1) 70)) ∧ SV.val (.int .i64 r2) = SV.val (.int .i64 r2) ∧ SV.val (.int .i64 r3) = SV.val (.int .i64 r3) ∧ SV.val (.int .i64 r4) = SV.val (.int .i64 r4) ∧ SV.val (.bool (!false)) = SV.val (.bool x24.t15) ∧ True) ∧ (True)) ∧ I_waveportlaw07_TransformGreat_3 (C_waveportlaw07_TransformGreat_3.mk r2 r3 r4) x24 V7)) ∧
        (false = false →
        ∃ x25 : L_waveportlaw07_TransformGreat_3, ((SV.val (.int .i64 (Int.tmod (IntKind.i64.wrap p0) 70)) = SV.val (.int .i64 (Int.tmod (IntKind.i64.wrap p0) 70)) ∧ SV.val (.int .i64 (Int.tmod (IntKind.i64.wrap p1) 70)) = SV.val (.int .i64 (Int.tmod (IntKind.i64.wrap p1) 70)) ∧ SV.val (.int .i64 r2) = SV.val (.int .i64 r2) ∧ SV.val (.int .i64 r3) = SV.val (.int .i64 r3) ∧ SV.val (.int .i64 r4) = SV.val (.int .i64 r4) ∧ SV.val (.bool false) = SV.val (.bool x25.t15) ∧ True) ∧ (True)) ∧ I_waveportlaw07_TransformGreat_3 (C_waveportlaw07_TransformGreat_3.mk r2 r3 r4) x25 V7)))) ∧
        ((decide (((Int.tmod (IntKind.i64.wrap p0) 70) : Int) ≥ 1)) = false →
        (false = true →
        ((decide (((Int.tmod (IntKind.i64.wrap p1) 70) : Int) ≥ 1)) = true →
        ((decide (((Int.tmod (IntKind.i64.wrap p1) 70) : Int) ≤ 64)) = true →
        (p2 = true →
        ∃ x26 : L_waveportlaw07_TransformGreat_3, ((SV.val (.int .i64 (Int.tmod (IntKind.i64.wrap p0) 70)) = SV.val (.int .i64 (Int.tmod (IntKind.i64.wrap p0) 70)) ∧ SV.val (.int .i64 (Int.tmod (IntKind.i64.wrap p1) 70)) = SV.val (.int .i64 (Int.tmod (IntKind.i64.wrap p1) 70)) ∧ SV.val (.int .i64 r2) = SV.val (.int .i64 r2) ∧ SV.val (.int .i64 r3) = SV.val (.int .i64 r3) ∧ SV.val (.int .i64 r4) = SV.val (.int .i64 r4) ∧ SV.val (.bool (!(decide (((Int.tmod (IntKind.i64.wrap p0) 70) : Int) > 1)))) = SV.val (.bool x26.t15) ∧ True) ∧ (True)) ∧ I_waveportlaw07_TransformGreat_3 (C_waveportlaw07_TransformGreat_3.mk r2 r3 r4) x26 V7) ∧
        (p2 = false →
        ∃ x27 : L_waveportlaw07_TransformGreat_3, ((SV.val (.int .i64 (Int.tmod (IntKind.i64.wrap p0) 70)) = SV.val (.int .i64 (Int.tmod (IntKind.i64.wrap p0) 70)) ∧ SV.val (.int .i64 (Int.tmod (IntKind.i64.wrap p1) 70)) = SV.val (.int .i64 (Int.tmod (IntKind.i64.wrap p1) 70)) ∧ SV.val (.int .i64 r2) = SV.val (.int .i64 r2) ∧ SV.val (.int .i64 r3) = SV.val (.int .i64 r3) ∧ SV.val (.int .i64 r4) = SV.val (.int .i64 r4) ∧ SV.val (.bool (!false)) = SV.val (.bool x27.t15) ∧ True) ∧ (True)) ∧ I_waveportlaw07_TransformGreat_3 (C_waveportlaw07_TransformGreat_3.mk r2 r3 r4) x27 V7)) ∧
        ((decide (((Int.tmod (IntKind.i64.wrap p1) 70) : Int) ≤ 64)) = false →
        ∃ x28 : L_waveportlaw07_TransformGreat_3, ((SV.val (.int .i64 (Int.tmod (IntKind.i64.wrap p0) 70)) = SV.val (.int .i64 (Int.tmod (IntKind.i64.wrap p0) 70)) ∧ SV.val (.int .i64 (Int.tmod (IntKind.i64.wrap p1) 70)) = SV.val (.int .i64 (Int.tmod (IntKind.i64.wrap p1) 70)) ∧ SV.val (.int .i64 r2) = SV.val (.int .i64 r2) ∧ SV.val (.int .i64 r3) = SV.val (.int .i64 r3) ∧ SV.val (.int .i64 r4) = SV.val (.int .i64 r4) ∧ SV.val (.bool false) = SV.val (.bool x28.t15) ∧ True) ∧ (True)) ∧ I_waveportlaw07_TransformGreat_3 (C_waveportlaw07_TransformGreat_3.mk r2 r3 r4) x28 V7)) ∧
        ((decide (((Int.tmod (IntKind.i64.wrap p1) 70) : Int) ≥ 1)) = false →
        (false = true →
        (p2 = true →
        ∃ x29 : L_waveportlaw07_TransformGreat_3, ((SV.val (.int .i64 (Int.tmod (IntKind.i64.wrap p0) 70)) = SV.val (.int .i64 (Int.tmod (IntKind.i64.wrap p0) 70)) ∧ SV.val (.int .i64 (Int.tmod (IntKind.i64.wrap p1) 70)) = SV.val (.int .i64 (Int.tmod (IntKind.i64.wrap p1) 70)) ∧ SV.val (.int .i64 r2) = SV.val (.int .i64 r2) ∧ SV.val (.int .i64 r3) = SV.val (.int .i64 r3) ∧ SV.val (.int .i64 r4) = SV.val (.int .i64 r4) ∧ SV.val (.bool (!(decide (((Int.tmod (IntKind.i64.wrap p0) 70) : Int) > 1)))) = SV.val (.bool x29.t15) ∧ True) ∧ (True)) ∧ I_waveportlaw07_TransformGreat_3 (C_waveportlaw07_TransformGreat_3.mk r2 r3 r4) x29 V7) ∧
        (p2 = false →
        ∃ x30 : L_waveportlaw07_TransformGreat_3, ((SV.val (.int .i64 (Int.tmod (IntKind.i64.wrap p0) 70)) = SV.val (.int .i64 (Int.tmod (IntKind.i64.wrap p0) 70)) ∧ SV.val (.int .i64 (Int.tmod (IntKind.i64.wrap p1) 70)) = SV.val (.int .i64 (Int.tmod (IntKind.i64.wrap p1) 70)) ∧ SV.val (.int .i64 r2) = SV.val (.int .i64 r2) ∧ SV.val (.int .i64 r3) = SV.val (.int .i64 r3) ∧ SV.val (.int .i64 r4) = SV.val (.int .i64 r4) ∧ SV.val (.bool (!false)) = SV.val (.bool x30.t15) ∧ True) ∧ (True)) ∧ I_waveportlaw07_TransformGreat_3 (C_waveportlaw07_TransformGreat_3.mk r2 r3 r4) x30 V7)) ∧
        (false = false →
        ∃ x31 : L_waveportlaw07_TransformGreat_3, ((SV.val (.int .i64 (Int.tmod (IntKind.i64.wrap p0) 70)) = SV.val (.int .i64 (Int.tmod (IntKind.i64.wrap p0) 70)) ∧ SV.val (.int .i64 (Int.tmod (IntKind.i64.wrap p1) 70)) = SV.val (.int .i64 (Int.tmod (IntKind.i64.wrap p1) 70)) ∧ SV.val (.int .i64 r2) = SV.val (.int .i64 r2) ∧ SV.val (.int .i64 r3) = SV.val (.int .i64 r3) ∧ SV.val (.int .i64 r4) = SV.val (.int .i64 r4) ∧ SV.val (.bool false) = SV.val (.bool x31.t15) ∧ True) ∧ (True)) ∧ I_waveportlaw07_TransformGreat_3 (C_waveportlaw07_TransformGreat_3.mk r2 r3 r4) x31 V7))) ∧
        (false = false →
        (false = true →
        ((decide (((Int.tmod (IntKind.i64.wrap p1) 70) : Int) ≤ 64)) = true →
        (p2 = true →
        ∃ x32 : L_waveportlaw07_TransformGreat_3, ((SV.val (.int .i64 (Int.tmod (IntKind.i64.wrap p0) 70)) = SV.val (.int .i64 (Int.tmod (IntKind.i64.wrap p0) 70)) ∧ SV.val (.int .i64 (Int.tmod (IntKind.i64.wrap p1) 70)) = SV.val (.int .i64 (Int.tmod (IntKind.i64.wrap p1) 70)) ∧ SV.val (.int .i64 r2) = SV.val (.int .i64 r2) ∧ SV.val (.int .i64 r3) = SV.val (.int .i64 r3) ∧ SV.val (.int .i64 r4) = SV.val (.int .i64 r4) ∧ SV.val (.bool (!(decide (((Int.tmod (IntKind.i64.wrap p0) 70) : Int) > 1)))) = SV.val (.bool x32.t15) ∧ True) ∧ (True)) ∧ I_waveportlaw07_TransformGreat_3 (C_waveportlaw07_TransformGreat_3.mk r2 r3 r4) x32 V7) ∧
        (p2 = false →
        ∃ x33 : L_waveportlaw07_TransformGreat_3, ((SV.val (.int .i64 (Int.tmod (IntKind.i64.wrap p0) 70)) = SV.val (.int .i64 (Int.tmod (IntKind.i64.wrap p0) 70)) ∧ SV.val (.int .i64 (Int.tmod (IntKind.i64.wrap p1) 70)) = SV.val (.int .i64 (Int.tmod (IntKind.i64.wrap p1) 70)) ∧ SV.val (.int .i64 r2) = SV.val (.int .i64 r2) ∧ SV.val (.int .i64 r3) = SV.val (.int .i64 r3) ∧ SV.val (.int .i64 r4) = SV.val (.int .i64 r4) ∧ SV.val (.bool (!false)) = SV.val (.bool x33.t15) ∧ True) ∧ (True)) ∧ I_waveportlaw07_TransformGreat_3 (C_waveportlaw07_TransformGreat_3.mk r2 r3 r4) x33 V7)) ∧
        ((decide (((Int.tmod (IntKind.i64.wrap p1) 70) : Int) ≤ 64)) = false →
        ∃ x34 : L_waveportlaw07_TransformGreat_3, ((SV.val (.int .i64 (Int.tmod (IntKind.i64.wrap p0) 70)) = SV.val (.int .i64 (Int.tmod (IntKind.i64.wrap p0) 70)) ∧ SV.val (.int .i64 (Int.tmod (IntKind.i64.wrap p1) 70)) = SV.val (.int .i64 (Int.tmod (IntKind.i64.wrap p1) 70)) ∧ SV.val (.int .i64 r2) = SV.val (.int .i64 r2) ∧ SV.val (.int .i64 r3) = SV.val (.int .i64 r3) ∧ SV.val (.int .i64 r4) = SV.val (.int .i64 r4) ∧ SV.val (.bool false) = SV.val (.bool x34.t15) ∧ True) ∧ (True)) ∧ I_waveportlaw07_TransformGreat_3 (C_waveportlaw07_TransformGreat_3.mk r2 r3 r4) x34 V7)) ∧
        (false = false →
        (false = true →
        (p2 = true →
        ∃ x35 : L_waveportlaw07_TransformGreat_3, ((SV.val (.int .i64 (Int.tmod (IntKind.i64.wrap p0) 70)) = SV.val (.int .i64 (Int.tmod (IntKind.i64.wrap p0) 70)) ∧ SV.val (.int .i64 (Int.tmod (IntKind.i64.wrap p1) 70)) = SV.val (.int .i64 (Int.tmod (IntKind.i64.wrap p1) 70)) ∧ SV.val (.int .i64 r2) = SV.val (.int .i64 r2) ∧ SV.val (.int .i64 r3) = SV.val (.int .i64 r3) ∧ SV.val (.int .i64 r4) = SV.val (.int .i64 r4) ∧ SV.val (.bool (!(decide (((Int.tmod (IntKind.i64.wrap p0) 70) : Int) > 1)))) = SV.val (.bool x35.t15) ∧ True) ∧ (True)) ∧ I_waveportlaw07_TransformGreat_3 (C_waveportlaw07_TransformGreat_3.mk r2 r3 r4) x35 V7) ∧
        (p2 = false →
        ∃ x36 : L_waveportlaw07_TransformGreat_3, ((SV.val (.int .i64 (Int.tmod (IntKind.i64.wrap p0) 70)) = SV.val (.int .i64 (Int.tmod (IntKind.i64.wrap p0) 70)) ∧ SV.val (.int .i64 (Int.tmod (IntKind.i64.wrap p1) 70)) = SV.val (.int .i64 (Int.tmod (IntKind.i64.wrap p1) 70)) ∧ SV.val (.int .i64 r2) = SV.val (.int .i64 r2) ∧ SV.val (.int .i64 r3) = SV.val (.int .i64 r3) ∧ SV.val (.int .i64 r4) = SV.val (.int .i64 r4) ∧ SV.val (.bool (!false)) = SV.val (.bool x36.t15) ∧ True) ∧ (True)) ∧ I_waveportlaw07_TransformGreat_3 (C_waveportlaw07_TransformGreat_3.mk r2 r3 r4) x36 V7)) ∧
        (false = false →
        ∃ x37 : L_waveportlaw07_TransformGreat_3, ((SV.val (.int .i64 (Int.tmod (IntKind.i64.wrap p0) 70)) = SV.val (.int .i64 (Int.tmod (IntKind.i64.wrap p0) 70)) ∧ SV.val (.int .i64 (Int.tmod (IntKind.i64.wrap p1) 70)) = SV.val (.int .i64 (Int.tmod (IntKind.i64.wrap p1) 70)) ∧ SV.val (.int .i64 r2) = SV.val (.int .i64 r2) ∧ SV.val (.int .i64 r3) = SV.val (.int .i64 r3) ∧ SV.val (.int .i64 r4) = SV.val (.int .i64 r4) ∧ SV.val (.bool false) = SV.val (.bool x37.t15) ∧ True) ∧ (True)) ∧ I_waveportlaw07_TransformGreat_3 (C_waveportlaw07_TransformGreat_3.mk r2 r3 r4) x37 V7))))) ∧
      (∀ (x13 : L_waveportlaw07_TransformGreat_3) (V8 : View), View.le V7 V8 → I_waveportlaw07_TransformGreat_3 (C_waveportlaw07_TransformGreat_3.mk r2 r3 r4) x13 V8 →
        ((!x13.t15) = true →
          (((r2 : Int) == 4) = true →
          (((r3 : Int) == 0) = true →
          (((r4 : Int) == 0) = true →
          CallV Try.prog 16 #[] V8 fun v V9 => ∃ r5 : Bool, v = .bool r5 ∧ -- waveportlaw07.awake
          R (.bool r5) V9) ∧
          (((r4 : Int) == 0) = false →
          R (.bool false) V8)) ∧
          (((r3 : Int) == 0) = false →
          (false = true →
          CallV Try.prog 16 #[] V8 fun v V10 => ∃ r6 : Bool, v = .bool r6 ∧ -- waveportlaw07.awake
          R (.bool r6) V10) ∧
          (false = false →
          R (.bool false) V8))) ∧
          (((r2 : Int) == 4) = false →
          (false = true →
          (((r4 : Int) == 0) = true →
          CallV Try.prog 16 #[] V8 fun v V11 => ∃ r7 : Bool, v = .bool r7 ∧ -- waveportlaw07.awake
          R (.bool r7) V11) ∧
          (((r4 : Int) == 0) = false →
          R (.bool false) V8)) ∧
          (false = false →
          (false = true →
          CallV Try.prog 16 #[] V8 fun v V12 => ∃ r8 : Bool, v = .bool r8 ∧ -- waveportlaw07.awake
          R (.bool r8) V12) ∧
          (false = false →
          R (.bool false) V8)))) ∧
        ((!x13.t15) = false →
          (((r2 : Int) == 0) = true →
        (((r3 : Int) == (Int.tmod (IntKind.i64.wrap p0) 70)) = true →
        (((r4 : Int) == (Int.tmod (IntKind.i64.wrap p1) 70)) = true →
        CallV Try.prog 16 #[] V8 fun v V13 => ∃ r9 : Bool, v = .bool r9 ∧ -- waveportlaw07.awake
        R (.bool r9) V13) ∧
        (((r4 : Int) == (Int.tmod (IntKind.i64.wrap p1) 70)) = false →
        R (.bool false) V8)) ∧
        (((r3 : Int) == (Int.tmod (IntKind.i64.wrap p0) 70)) = false →
        (false = true →
        CallV Try.prog 16 #[] V8 fun v V14 => ∃ r10 : Bool, v = .bool r10 ∧ -- waveportlaw07.awake
        R (.bool r10) V14) ∧
        (false = false →
        R (.bool false) V8))) ∧
        (((r2 : Int) == 0) = false →
        (false = true →
        (((r4 : Int) == (Int.tmod (IntKind.i64.wrap p1) 70)) = true →
        CallV Try.prog 16 #[] V8 fun v V15 => ∃ r11 : Bool, v = .bool r11 ∧ -- waveportlaw07.awake
        R (.bool r11) V15) ∧
        (((r4 : Int) == (Int.tmod (IntKind.i64.wrap p1) 70)) = false →
        R (.bool false) V8)) ∧
        (false = false →
        (false = true →
        CallV Try.prog 16 #[] V8 fun v V16 => ∃ r12 : Bool, v = .bool r12 ∧ -- waveportlaw07.awake
        R (.bool r12) V16) ∧
        (false = false →
        R (.bool false) V8)))))))) from ⟨h.1, ⟨⟨(L_waveportlaw07_TransformGreat_0.mk 0 ((List.replicate (Int.toNat (Int.tmod (IntKind.i64.wrap p0) 70)) [Value.slice none 0 0]).flatten)), ⟨⟨rfl, rfl, rfl, rfl, rfl, rfl, trivial⟩, ⟨rfl, trivial⟩⟩, h.2.1⟩, fun x2 V1 h77 h78 => ⟨fun h76 => ⟨((h.2.2 x2 V1 h77 h78).1 h76).1, (fun b1 V2 h1 h2 h3 => ⟨(((h.2.2 x2 V1 h77 h78).1 h76).2 b1 V2 h1 h2 h3).1, ⟨(((h.2.2 x2 V1 h77 h78).1 h76).2 b1 V2 h1 h2 h3).2.1, ⟨(L_waveportlaw07_TransformGreat_0.mk (IntKind.i64.wrap (x2.t26 + 1)) (List.set x2.o23 (0 + Int.toNat x2.t26 * 1) (.slice (some (Addr.mk b1 0 none)) (Int.toNat (Int.tmod (IntKind.i64.wrap p1) 70)) (Int.toNat (Int.tmod (IntKind.i64.wrap p1) 70))))), ⟨⟨rfl, rfl, rfl, rfl, rfl, rfl, trivial⟩, ⟨rfl, trivial⟩⟩, (((h.2.2 x2 V1 h77 h78).1 h76).2 b1 V2 h1 h2 h3).2.2.1, (((h.2.2 x2 V1 h77 h78).1 h76).2 b1 V2 h1 h2 h3).2.2.2⟩⟩⟩)⟩, fun h76 => ⟨⟨⟨fun h6 => ⟨fun h4 => ⟨(L_waveportlaw07_TransformGreat_2.mk (decide (((Int.tmod (IntKind.i64.wrap p1) 70) : Int) > 0))), ⟨⟨rfl, rfl, rfl, rfl, rfl, trivial⟩, ⟨rfl, trivial⟩⟩, ((((h.2.2 x2 V1 h77 h78).2 h76).1.1.1 h6).1 h4)⟩, fun h4 => ⟨(L_waveportlaw07_TransformGreat_2.mk false), ⟨⟨rfl, rfl, rfl, rfl, rfl, trivial⟩, ⟨rfl, trivial⟩⟩, ((((h.2.2 x2 V1 h77 h78).2 h76).1.1.1 h6).2 h4)⟩⟩, fun h6 => ⟨fun h5 => ⟨(L_waveportlaw07_TransformGreat_2.mk (decide (((Int.tmod (IntKind.i64.wrap p1) 70) : Int) > 0))), ⟨⟨rfl, rfl, rfl, rfl, rfl, trivial⟩, ⟨rfl, trivial⟩⟩, ((((h.2.2 x2 V1 h77 h78).2 h76).1.1.2 h6).1 h5)⟩, fun h5 => ⟨(L_waveportlaw07_TransformGreat_2.mk false), ⟨⟨rfl, rfl, rfl, rfl, rfl, trivial⟩, ⟨rfl, trivial⟩⟩, ((((h.2.2 x2 V1 h77 h78).2 h76).1.1.2 h6).2 h5)⟩⟩⟩, fun x5 V4 h10 h11 => ⟨fun h9 => ⟨((((h.2.2 x2 V1 h77 h78).2 h76).1.2 x5 V4 h10 h11).1 h9).1, (match ((((h.2.2 x2 V1 h77 h78).2 h76).1.2 x5 V4 h10 h11).1 h9).2 with | ⟨x10, h8, h7⟩ => ⟨x10, h8, ⟨h7.1, ⟨h7.2.1, ⟨h7.2.2.1, ⟨(L_waveportlaw07_TransformGreat_1.mk (List.set x2.o23 (0 + Int.toNat (IntKind.i64.wrap ((Int.tmod (IntKind.i64.wrap p0) 70) - 1)) * 1) (.slice (if x10.cap = Int.toNat 0 then x10.a else Option.map (fun q => Addr.add q (Int.toNat 0 * 1)) x10.a) (Int.toNat (IntKind.i64.wrap ((Int.tmod (IntKind.i64.wrap p1) 70) - 1)) - Int.toNat 0) (x10.cap - Int.toNat 0)))), ⟨⟨rfl, rfl, rfl, rfl, trivial⟩, ⟨rfl, trivial⟩⟩, h7.2.2.2⟩⟩⟩⟩⟩)⟩, fun h9 => ⟨(L_waveportlaw07_TransformGreat_1.mk x2.o23), ⟨⟨rfl, rfl, rfl, rfl, trivial⟩, ⟨rfl, trivial⟩⟩, ((((h.2.2 x2 V1 h77 h78).2 h76).1.2 x5 V4 h10 h11).2 h9)⟩⟩⟩, fun x4 V3 h74 h75 => (fun b2 V5 h72 h73 => (CallV.mono ((((h.2.2 x2 V1 h77 h78).2 h76).2 x4 V3 h74 h75) b2 V5 h72 h73) (fun _ _ _ ⟨r1, r2, h71, h70⟩ => ⟨r1, r2, h71, (CallV.mono h70 (fun _ _ _ ⟨r3, r4, h69, h68⟩ => ⟨r3, r4, h69, ⟨⟨fun h34 => ⟨fun h22 => ⟨fun h16 => ⟨fun h13 => ⟨fun h12 => ⟨(L_waveportlaw07_TransformGreat_3.mk (!(decide (((Int.tmod (IntKind.i64.wrap p0) 70) : Int) > 1)))), ⟨⟨rfl, rfl, rfl, rfl, rfl, rfl, trivial⟩, trivial⟩, (((((h68.1.1 h34).1 h22).1 h16).1 h13).1 h12)⟩, fun h12 => ⟨(L_waveportlaw07_TransformGreat_3.mk (!false)), ⟨⟨rfl, rfl, rfl, rfl, rfl, rfl, trivial⟩, trivial⟩, (((((h68.1.1 h34).1 h22).1 h16).1 h13).2 h12)⟩⟩, fun h13 => ⟨(L_waveportlaw07_TransformGreat_3.mk false), ⟨⟨rfl, rfl, rfl, rfl, rfl, rfl, trivial⟩, trivial⟩, ((((h68.1.1 h34).1 h22).1 h16).2 h13)⟩⟩, fun h16 => ⟨fun h15 => ⟨fun h14 => ⟨(L_waveportlaw07_TransformGreat_3.mk (!(decide (((Int.tmod (IntKind.i64.wrap p0) 70) : Int) > 1)))), ⟨⟨rfl, rfl, rfl, rfl, rfl, rfl, trivial⟩, trivial⟩, (((((h68.1.1 h34).1 h22).2 h16).1 h15).1 h14)⟩, fun h14 => ⟨(L_waveportlaw07_TransformGreat_3.mk (!false)), ⟨⟨rfl, rfl, rfl, rfl, rfl, rfl, trivial⟩, trivial⟩, (((((h68.1.1 h34).1 h22).2 h16).1 h15).2 h14)⟩⟩, fun h15 => ⟨(L_waveportlaw07_TransformGreat_3.mk false), ⟨⟨rfl, rfl, rfl, rfl, rfl, rfl, trivial⟩, trivial⟩, ((((h68.1.1 h34).1 h22).2 h16).2 h15)⟩⟩⟩, fun h22 => ⟨fun h21 => ⟨fun h18 => ⟨fun h17 => ⟨(L_waveportlaw07_TransformGreat_3.mk (!(decide (((Int.tmod (IntKind.i64.wrap p0) 70) : Int) > 1)))), ⟨⟨rfl, rfl, rfl, rfl, rfl, rfl, trivial⟩, trivial⟩, (((((h68.1.1 h34).2 h22).1 h21).1 h18).1 h17)⟩, fun h17 => ⟨(L_waveportlaw07_TransformGreat_3.mk (!false)), ⟨⟨rfl, rfl, rfl, rfl, rfl, rfl, trivial⟩, trivial⟩, (((((h68.1.1 h34).2 h22).1 h21).1 h18).2 h17)⟩⟩, fun h18 => ⟨(L_waveportlaw07_TransformGreat_3.mk false), ⟨⟨rfl, rfl, rfl, rfl, rfl, rfl, trivial⟩, trivial⟩, ((((h68.1.1 h34).2 h22).1 h21).2 h18)⟩⟩, fun h21 => ⟨fun h20 => ⟨fun h19 => ⟨(L_waveportlaw07_TransformGreat_3.mk (!(decide (((Int.tmod (IntKind.i64.wrap p0) 70) : Int) > 1)))), ⟨⟨rfl, rfl, rfl, rfl, rfl, rfl, trivial⟩, trivial⟩, (((((h68.1.1 h34).2 h22).2 h21).1 h20).1 h19)⟩, fun h19 => ⟨(L_waveportlaw07_TransformGreat_3.mk (!false)), ⟨⟨rfl, rfl, rfl, rfl, rfl, rfl, trivial⟩, trivial⟩, (((((h68.1.1 h34).2 h22).2 h21).1 h20).2 h19)⟩⟩, fun h20 => ⟨(L_waveportlaw07_TransformGreat_3.mk false), ⟨⟨rfl, rfl, rfl, rfl, rfl, rfl, trivial⟩, trivial⟩, ((((h68.1.1 h34).2 h22).2 h21).2 h20)⟩⟩⟩⟩, fun h34 => ⟨fun h33 => ⟨fun h27 => ⟨fun h24 => ⟨fun h23 => ⟨(L_waveportlaw07_TransformGreat_3.mk (!(decide (((Int.tmod (IntKind.i64.wrap p0) 70) : Int) > 1)))), ⟨⟨rfl, rfl, rfl, rfl, rfl, rfl, trivial⟩, trivial⟩, (((((h68.1.2 h34).1 h33).1 h27).1 h24).1 h23)⟩, fun h23 => ⟨(L_waveportlaw07_TransformGreat_3.mk (!false)), ⟨⟨rfl, rfl, rfl, rfl, rfl, rfl, trivial⟩, trivial⟩, (((((h68.1.2 h34).1 h33).1 h27).1 h24).2 h23)⟩⟩, fun h24 => ⟨(L_waveportlaw07_TransformGreat_3.mk false), ⟨⟨rfl, rfl, rfl, rfl, rfl, rfl, trivial⟩, trivial⟩, ((((h68.1.2 h34).1 h33).1 h27).2 h24)⟩⟩, fun h27 => ⟨fun h26 => ⟨fun h25 => ⟨(L_waveportlaw07_TransformGreat_3.mk (!(decide (((Int.tmod (IntKind.i64.wrap p0) 70) : Int) > 1)))), ⟨⟨rfl, rfl, rfl, rfl, rfl, rfl, trivial⟩, trivial⟩, (((((h68.1.2 h34).1 h33).2 h27).1 h26).1 h25)⟩, fun h25 => ⟨(L_waveportlaw07_TransformGreat_3.mk (!false)), ⟨⟨rfl, rfl, rfl, rfl, rfl, rfl, trivial⟩, trivial⟩, (((((h68.1.2 h34).1 h33).2 h27).1 h26).2 h25)⟩⟩, fun h26 => ⟨(L_waveportlaw07_TransformGreat_3.mk false), ⟨⟨rfl, rfl, rfl, rfl, rfl, rfl, trivial⟩, trivial⟩, ((((h68.1.2 h34).1 h33).2 h27).2 h26)⟩⟩⟩, fun h33 => ⟨fun h32 => ⟨fun h29 => ⟨fun h28 => ⟨(L_waveportlaw07_TransformGreat_3.mk (!(decide (((Int.tmod (IntKind.i64.wrap p0) 70) : Int) > 1)))), ⟨⟨rfl, rfl, rfl, rfl, rfl, rfl, trivial⟩, trivial⟩, (((((h68.1.2 h34).2 h33).1 h32).1 h29).1 h28)⟩, fun h28 => ⟨(L_waveportlaw07_TransformGreat_3.mk (!false)), ⟨⟨rfl, rfl, rfl, rfl, rfl, rfl, trivial⟩, trivial⟩, (((((h68.1.2 h34).2 h33).1 h32).1 h29).2 h28)⟩⟩, fun h29 => ⟨(L_waveportlaw07_TransformGreat_3.mk false), ⟨⟨rfl, rfl, rfl, rfl, rfl, rfl, trivial⟩, trivial⟩, ((((h68.1.2 h34).2 h33).1 h32).2 h29)⟩⟩, fun h32 => ⟨fun h31 => ⟨fun h30 => ⟨(L_waveportlaw07_TransformGreat_3.mk (!(decide (((Int.tmod (IntKind.i64.wrap p0) 70) : Int) > 1)))), ⟨⟨rfl, rfl, rfl, rfl, rfl, rfl, trivial⟩, trivial⟩, (((((h68.1.2 h34).2 h33).2 h32).1 h31).1 h30)⟩, fun h30 => ⟨(L_waveportlaw07_TransformGreat_3.mk (!false)), ⟨⟨rfl, rfl, rfl, rfl, rfl, rfl, trivial⟩, trivial⟩, (((((h68.1.2 h34).2 h33).2 h32).1 h31).2 h30)⟩⟩, fun h31 => ⟨(L_waveportlaw07_TransformGreat_3.mk false), ⟨⟨rfl, rfl, rfl, rfl, rfl, rfl, trivial⟩, trivial⟩, ((((h68.1.2 h34).2 h33).2 h32).2 h31)⟩⟩⟩⟩⟩, fun x13 V8 h66 h67 => ⟨fun h65 => ⟨fun h49 => ⟨fun h41 => ⟨fun h37 => (CallV.mono (((((h68.2 x13 V8 h66 h67).1 h65).1 h49).1 h41).1 h37) (fun _ _ _ ⟨r5, h36, h35⟩ => ⟨r5, h36, h35⟩)), fun h37 => (((((h68.2 x13 V8 h66 h67).1 h65).1 h49).1 h41).2 h37)⟩, fun h41 => ⟨fun h40 => (CallV.mono (((((h68.2 x13 V8 h66 h67).1 h65).1 h49).2 h41).1 h40) (fun _ _ _ ⟨r6, h39, h38⟩ => ⟨r6, h39, h38⟩)), fun h40 => (((((h68.2 x13 V8 h66 h67).1 h65).1 h49).2 h41).2 h40)⟩⟩, fun h49 => ⟨fun h48 => ⟨fun h44 => (CallV.mono (((((h68.2 x13 V8 h66 h67).1 h65).2 h49).1 h48).1 h44) (fun _ _ _ ⟨r7, h43, h42⟩ => ⟨r7, h43, h42⟩)), fun h44 => (((((h68.2 x13 V8 h66 h67).1 h65).2 h49).1 h48).2 h44)⟩, fun h48 => ⟨fun h47 => (CallV.mono (((((h68.2 x13 V8 h66 h67).1 h65).2 h49).2 h48).1 h47) (fun _ _ _ ⟨r8, h46, h45⟩ => ⟨r8, h46, h45⟩)), fun h47 => (((((h68.2 x13 V8 h66 h67).1 h65).2 h49).2 h48).2 h47)⟩⟩⟩, fun h65 => ⟨fun h64 => ⟨fun h56 => ⟨fun h52 => (CallV.mono (((((h68.2 x13 V8 h66 h67).2 h65).1 h64).1 h56).1 h52) (fun _ _ _ ⟨r9, h51, h50⟩ => ⟨r9, h51, h50⟩)), fun h52 => (((((h68.2 x13 V8 h66 h67).2 h65).1 h64).1 h56).2 h52)⟩, fun h56 => ⟨fun h55 => (CallV.mono (((((h68.2 x13 V8 h66 h67).2 h65).1 h64).2 h56).1 h55) (fun _ _ _ ⟨r10, h54, h53⟩ => ⟨r10, h54, h53⟩)), fun h55 => (((((h68.2 x13 V8 h66 h67).2 h65).1 h64).2 h56).2 h55)⟩⟩, fun h64 => ⟨fun h63 => ⟨fun h59 => (CallV.mono (((((h68.2 x13 V8 h66 h67).2 h65).2 h64).1 h63).1 h59) (fun _ _ _ ⟨r11, h58, h57⟩ => ⟨r11, h58, h57⟩)), fun h59 => (((((h68.2 x13 V8 h66 h67).2 h65).2 h64).1 h63).2 h59)⟩, fun h63 => ⟨fun h62 => (CallV.mono (((((h68.2 x13 V8 h66 h67).2 h65).2 h64).2 h63).1 h62) (fun _ _ _ ⟨r12, h61, h60⟩ => ⟨r12, h61, h60⟩)), fun h62 => (((((h68.2 x13 V8 h66 h67).2 h65).2 h64).2 h63).2 h62)⟩⟩⟩⟩⟩⟩))⟩)))⟩⟩⟩⟩))

end Go.Proofs.Ytnbjnokgmeamdaa
