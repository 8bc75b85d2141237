/- Part of the proof; it has the parts FStage. -/
import Derived.Test.YtnbjnokgmeamdaaFTr1
set_option maxRecDepth 100000
set_option maxHeartbeats 4000000
namespace Go.Proofs.Ytnbjnokgmeamdaa
open Go Go.Vc Go.Proofs

structure L_transform_stage_num_Num__0 where
  t36 : Int
  o15 : List Value
structure C_transform_stage_num_Num__0 where
  t8 : Sl
  t9 : Sl
def transform_stage_num_Num__f0 (p0 : Sl) (p1 : Sl) (c : C_transform_stage_num_Num__0) (w x : L_transform_stage_num_Num__0) : Prop := (Q1 (.val (p1.v)) ∧ Q1 (.val (.int .i64 (p0.len : Int))) ∧ Q1 (.osl 15 0 (Int.toNat (p0.len : Int)) (Int.toNat (p0.len : Int))) ∧ Q1 (.val (c.t8.v)) ∧ Q1 (.val (c.t9.v)) ∧ Q1 (.val (.int .i64 (IntKind.i64.wrap (Int.tdiv (p0.len : Int) 2)))) ∧ E2 (.val (.int .i64 w.t36)) (.val (.int .i64 x.t36)) ∧ True) ∧ (O2 ⟨31, .dyn w.o15⟩ ⟨31, .dyn x.o15⟩ ∧ True)
def transform_stage_num_Num__sk (p0 : Sl) (p1 : Sl) (V : View) (R : Nat → Nat → List Value → List Value → View → Prop) (I0 : C_transform_stage_num_Num__0 → L_transform_stage_num_Num__0 → View → Prop) (E0 : C_transform_stage_num_Num__0 → L_transform_stage_num_Num__0 → View → Prop) (B0 : C_transform_stage_num_Num__0 → L_transform_stage_num_Num__0 → View → L_transform_stage_num_Num__0 → View → Prop) : Prop :=
    ((0 : Int) ≤ (p0.len : Int) ∧ ((p0.len : Int) : Int) ≤ (p0.len : Int) ∧ (88 : Int) * (p0.len : Int) ≤ 281474976710656 ∧ ((p0.len : Int) : Int) ≤ 9223372036854775807) ∧
    ((((p0.len : Int) : Int) == 1) = true →
      ((0 : Int) ≤ 0 ∧ (0 : Int) < (p0.len : Nat) ∧ Option.isSome p0.a = true) ∧
      ∃ x1 : NumV, View.has V (Option.map (fun q => Addr.add q (Int.toNat 0 * 5)) p0.a) (x1.val).cells.toList ∧ Option.isSome (Option.map (fun q => Addr.add q (Int.toNat 0 * 5)) p0.a) = true ∧
      ((0 : Int) ≤ 0 ∧ (0 : Int) < (Int.toNat (p0.len : Int) : Nat)) ∧
      0 + Int.toNat 0 * 5 + 5 ≤ List.length ((List.replicate (Int.toNat (p0.len : Int)) [Value.bool false, Value.slice none 0 0, Value.bool false, Value.slice none 0 0, Value.slice none 0 0]).flatten) ∧
      ((Int.toNat (p0.len : Int)) ≠ 0 ∧ (setL ((List.replicate (Int.toNat (p0.len : Int)) [Value.bool false, Value.slice none 0 0, Value.bool false, Value.slice none 0 0, Value.slice none 0 0]).flatten) (0 + Int.toNat 0 * 5) [.bool x1.re.neg, x1.re.mag.v, .bool x1.im.neg, x1.im.mag.v, x1.under.v]) ≠ []) ∧ R (Int.toNat (p0.len : Int)) (Int.toNat (p0.len : Int)) (setL ((List.replicate (Int.toNat (p0.len : Int)) [Value.bool false, Value.slice none 0 0, Value.bool false, Value.slice none 0 0, Value.slice none 0 0]).flatten) (0 + Int.toNat 0 * 5) [.bool x1.re.neg, x1.re.mag.v, .bool x1.im.neg, x1.im.mag.v, x1.under.v]) [] V) ∧
    ((((p0.len : Int) : Int) == 1) = false →
      CallV Try.prog 80 #[p1.v, .int .i64 0] V fun v V1 => ∃ r1 : Sl, v = r1.v ∧ -- transform.every[num.Num]
    CallV Try.prog 80 #[p0.v, .int .i64 0] V1 fun v V2 => ∃ r2 : Sl, v = r2.v ∧ -- transform.every[num.Num]
    CallV Try.prog 63 #[r2.v, r1.v] V2 fun v V3 => ∃ r3 : Sl, v = r3.v ∧ -- transform.stage[num.Num]
    CallV Try.prog 80 #[p0.v, .int .i64 1] V3 fun v V4 => ∃ r4 : Sl, v = r4.v ∧ -- transform.every[num.Num]
    CallV Try.prog 63 #[r4.v, r1.v] V4 fun v V5 => ∃ r5 : Sl, v = r5.v ∧ -- transform.stage[num.Num]
    E0 (C_transform_stage_num_Num__0.mk r3 r5) (L_transform_stage_num_Num__0.mk 0 ((List.replicate (Int.toNat (p0.len : Int)) [Value.bool false, Value.slice none 0 0, Value.bool false, Value.slice none 0 0, Value.slice none 0 0]).flatten)) V5 ∧
    (∀ (x3 : L_transform_stage_num_Num__0) (V6 : View), View.le V5 V6 → I0 (C_transform_stage_num_Num__0.mk r3 r5) x3 V6 →
      ((decide ((x3.t36 : Int) < (IntKind.i64.wrap (Int.tdiv (p0.len : Int) 2)))) = true →
        ((0 : Int) ≤ x3.t36 ∧ (x3.t36 : Int) < (r5.len : Nat) ∧ Option.isSome r5.a = true) ∧
      ∃ x4 : NumV, View.has V6 (Option.map (fun q => Addr.add q (Int.toNat x3.t36 * 5)) r5.a) (x4.val).cells.toList ∧ Option.isSome (Option.map (fun q => Addr.add q (Int.toNat x3.t36 * 5)) r5.a) = true ∧
      ((0 : Int) ≤ x3.t36 ∧ (x3.t36 : Int) < (p1.len : Nat) ∧ Option.isSome p1.a = true) ∧
      ∃ x5 : NumV, View.has V6 (Option.map (fun q => Addr.add q (Int.toNat x3.t36 * 5)) p1.a) (x5.val).cells.toList ∧ Option.isSome (Option.map (fun q => Addr.add q (Int.toNat x3.t36 * 5)) p1.a) = true ∧
      CallV Try.prog 37 #[x4.val, x5.val] V6 fun v V7 => ∃ r6 : NumV, v = r6.val ∧ -- (num.Num).Mul
      ((0 : Int) ≤ x3.t36 ∧ (x3.t36 : Int) < (r3.len : Nat) ∧ Option.isSome r3.a = true) ∧
      ∃ x6 : NumV, View.has V7 (Option.map (fun q => Addr.add q (Int.toNat x3.t36 * 5)) r3.a) (x6.val).cells.toList ∧ Option.isSome (Option.map (fun q => Addr.add q (Int.toNat x3.t36 * 5)) r3.a) = true ∧
      ((0 : Int) ≤ x3.t36 ∧ (x3.t36 : Int) < (r3.len : Nat) ∧ Option.isSome r3.a = true) ∧
      ∃ x7 : NumV, View.has V7 (Option.map (fun q => Addr.add q (Int.toNat x3.t36 * 5)) r3.a) (x7.val).cells.toList ∧ Option.isSome (Option.map (fun q => Addr.add q (Int.toNat x3.t36 * 5)) r3.a) = true ∧
      CallV Try.prog 60 #[x6.val, r6.val] V7 fun v V8 => ∃ r7 : NumV, v = r7.val ∧ -- (num.Num).Add
      CallV Try.prog 48 #[x7.val, r6.val] V8 fun v V9 => ∃ r8 : NumV, v = r8.val ∧ -- (num.Num).Sub
      ((0 : Int) ≤ x3.t36 ∧ (x3.t36 : Int) < (Int.toNat (p0.len : Int) : Nat)) ∧
      0 + Int.toNat x3.t36 * 5 + 5 ≤ List.length x3.o15 ∧
      ((0 : Int) ≤ (IntKind.i64.wrap (x3.t36 + (IntKind.i64.wrap (Int.tdiv (p0.len : Int) 2)))) ∧ ((IntKind.i64.wrap (x3.t36 + (IntKind.i64.wrap (Int.tdiv (p0.len : Int) 2)))) : Int) < (Int.toNat (p0.len : Int) : Nat)) ∧
      0 + Int.toNat (IntKind.i64.wrap (x3.t36 + (IntKind.i64.wrap (Int.tdiv (p0.len : Int) 2)))) * 5 + 5 ≤ List.length (setL x3.o15 (0 + Int.toNat x3.t36 * 5) [.bool r7.re.neg, r7.re.mag.v, .bool r7.im.neg, r7.im.mag.v, r7.under.v]) ∧
      B0 (C_transform_stage_num_Num__0.mk r3 r5) (L_transform_stage_num_Num__0.mk (IntKind.i64.wrap (x3.t36 + 1)) (setL (setL x3.o15 (0 + Int.toNat x3.t36 * 5) [.bool r7.re.neg, r7.re.mag.v, .bool r7.im.neg, r7.im.mag.v, r7.under.v]) (0 + Int.toNat (IntKind.i64.wrap (x3.t36 + (IntKind.i64.wrap (Int.tdiv (p0.len : Int) 2)))) * 5) [.bool r8.re.neg, r8.re.mag.v, .bool r8.im.neg, r8.im.mag.v, r8.under.v])) V9 x3 V6) ∧
      ((decide ((x3.t36 : Int) < (IntKind.i64.wrap (Int.tdiv (p0.len : Int) 2)))) = false →
        ((Int.toNat (p0.len : Int)) ≠ 0 ∧ x3.o15 ≠ []) ∧ R (Int.toNat (p0.len : Int)) (Int.toNat (p0.len : Int)) x3.o15 [] V6)))

theorem transform_stage_num_Num__v0 (p0 : Sl) (p1 : Sl) (V : View) (R : Nat → Nat → List Value → List Value → View → Prop) (I0 : C_transform_stage_num_Num__0 → L_transform_stage_num_Num__0 → View → Prop) (J0 : C_transform_stage_num_Num__0 → L_transform_stage_num_Num__0 → View → Nat) {X : Prop} (e : transform_stage_num_Num__sk p0 p1 V R I0 I0 (fun c w V x U => I0 c w V ∧ J0 c w V < J0 c x U) = X) (h : X) :
  CallO Try.prog 63 #[p0.v, p1.v] 31 V R :=
  calls_of_vcO (Shp := Shp) hmixed Try.func63 (c := Try.f63.body.getD .skip) (args := [p0.v, p1.v]) (by kernel_rfl)
    (.seq (.reg [⟨4, 2, false⟩]) (.seq (.reg [⟨12, 2, false⟩, ⟨13, 0, false⟩, ⟨5, 2, false⟩]) (.seq (.reg [⟨14, 2, false⟩, ⟨15, 3, false⟩, ⟨6, 2, false⟩]) (.seq (.seq (.reg [⟨16, 2, false⟩, ⟨17, 0, false⟩]) (.cond (.seq (.reg [⟨18, 2, false⟩, ⟨19, 2, false⟩, ⟨20, 7, false⟩, ⟨21, 5, false⟩, ⟨22, 7, false⟩, ⟨15, 6, false⟩]) (.seq (.reg [⟨23, 2, false⟩, ⟨4, 2, false⟩]) .leaf)) .leaf)) (.seq (.reg [⟨24, 2, false⟩, ⟨25, 10, false⟩, ⟨7, 2, false⟩]) (.seq (.reg [⟨26, 2, false⟩, ⟨27, 10, false⟩, ⟨28, 2, false⟩, ⟨29, 10, false⟩, ⟨30, 2, false⟩, ⟨31, 10, false⟩, ⟨32, 2, false⟩, ⟨33, 10, false⟩, ⟨8, 2, false⟩, ⟨9, 2, false⟩]) (.seq (.seq (.reg [⟨34, 2, false⟩, ⟨35, 0, false⟩, ⟨36, 2, false⟩]) (.block (.loop C_transform_stage_num_Num__0 L_transform_stage_num_Num__0 (fun σ => C_transform_stage_num_Num__0.mk (Sl.mk (gSlA (gTm σ 8)) (gSlL (gTm σ 8)) (gSlC (gTm σ 8))) (Sl.mk (gSlA (gTm σ 9)) (gSlL (gTm σ 9)) (gSlC (gTm σ 9)))) (fun c x => { tm := spT 74 0 [(1, .val (p1.v)), (5, .val (.int .i64 (p0.len : Int))), (6, .osl 15 0 (Int.toNat (p0.len : Int)) (Int.toNat (p0.len : Int))), (8, .val (c.t8.v)), (9, .val (c.t9.v)), (35, .val (.int .i64 (IntKind.i64.wrap (Int.tdiv (p0.len : Int) 2)))), (36, .val (.int .i64 x.t36))], own := spO 74 0 [(15, ⟨31, .dyn x.o15⟩)] }) I0 J0 (.seq (.reg [⟨37, 0, false⟩]) (.seq (.cond .leaf .leaf) (.seq (.block (.seq (.reg [⟨38, 2, false⟩, ⟨10, 2, false⟩]) (.seq (.draw [(0, ⟨39, 2, false⟩), (1, ⟨40, 2, false⟩), (2, ⟨41, 7, false⟩), (3, ⟨42, 5, false⟩), (4, ⟨43, 0, false⟩), (5, ⟨44, 2, false⟩), (6, ⟨45, 2, false⟩), (7, ⟨46, 7, false⟩), (8, ⟨47, 5, false⟩), (10, ⟨11, 3, false⟩), (9, ⟨48, 10, false⟩), (11, ⟨11, 6, false⟩)] [0, 0, 3, 7, 15, 0, 0, 96, 224, 511, 0, 2047]) (.draw [(0, ⟨49, 2, false⟩), (1, ⟨50, 2, false⟩), (2, ⟨51, 2, false⟩), (3, ⟨52, 2, false⟩), (4, ⟨53, 2, false⟩), (5, ⟨54, 0, false⟩), (6, ⟨55, 0, false⟩), (7, ⟨56, 2, false⟩), (8, ⟨57, 2, false⟩), (9, ⟨58, 7, false⟩), (10, ⟨59, 5, false⟩), (11, ⟨60, 0, false⟩), (12, ⟨11, 4, false⟩), (14, ⟨63, 2, false⟩), (15, ⟨64, 2, false⟩), (16, ⟨65, 7, false⟩), (17, ⟨66, 5, false⟩), (18, ⟨67, 0, false⟩), (19, ⟨11, 4, false⟩), (13, ⟨62, 10, false⟩), (20, ⟨69, 10, false⟩), (21, ⟨70, 7, false⟩), (22, ⟨15, 6, false⟩), (23, ⟨71, 7, false⟩), (24, ⟨15, 6, false⟩)] [0, 0, 0, 0, 0, 16, 56, 0, 0, 384, 896, 1920, 0, 8064, 0, 0, 49152, 114688, 245760, 0, 1048448, 2097027, 4194179, 8388607, 16777215])))) (.reg [⟨72, 0, false⟩, ⟨36, 2, false⟩]))))))) (.seq (.reg [⟨73, 2, false⟩, ⟨4, 2, false⟩]) .leaf))))))))
    (Eq.mpr (by kernel_rfl) (show transform_stage_num_Num__sk p0 p1 V R I0 (fun c w V => ∃ x, transform_stage_num_Num__f0 p0 p1 c w x ∧ I0 c x V) (fun c w V y U => ∃ x, transform_stage_num_Num__f0 p0 p1 c w x ∧ I0 c x V ∧ J0 c x V < J0 c y U) from by
    have h := Eq.mpr e h; unfold transform_stage_num_Num__sk at h ⊢; have Ee0 := fun c w V (h : I0 c w V) => (⟨w, ⟨⟨rfl, rfl, rfl, rfl, rfl, rfl, rfl, trivial⟩, ⟨rfl, trivial⟩⟩, h⟩ : ∃ x, transform_stage_num_Num__f0 p0 p1 c w x ∧ I0 c x V); have Bb0 := fun c w V y U (h : I0 c w V ∧ J0 c w V < J0 c y U) => (⟨w, ⟨⟨rfl, rfl, rfl, rfl, rfl, rfl, rfl, trivial⟩, ⟨rfl, trivial⟩⟩, h⟩ : ∃ x, transform_stage_num_Num__f0 p0 p1 c w x ∧ I0 c x V ∧ J0 c x V < J0 c y U); exact ⟨h.1, ⟨fun h35 => ⟨(h.2.1 h35).1, (match (h.2.1 h35).2 with | ⟨x1, h2, h3, h1⟩ => ⟨x1, h2, h3, ⟨h1.1, ⟨h1.2.1, h1.2.2⟩⟩⟩)⟩, fun h35 => (CallV.mono (h.2.2 h35) (fun _ _ _ ⟨r1, h34, h33⟩ => ⟨r1, h34, (CallV.mono h33 (fun _ _ _ ⟨r2, h32, h31⟩ => ⟨r2, h32, (CallV.mono h31 (fun _ _ _ ⟨r3, h30, h29⟩ => ⟨r3, h30, (CallV.mono h29 (fun _ _ _ ⟨r4, h28, h27⟩ => ⟨r4, h28, (CallV.mono h27 (fun _ _ _ ⟨r5, h26, h25⟩ => ⟨r5, h26, ⟨(Ee0 _ _ _ h25.1), fun x3 V6 h23 h24 => ⟨fun h22 => ⟨((h25.2 x3 V6 h23 h24).1 h22).1, (match ((h25.2 x3 V6 h23 h24).1 h22).2 with | ⟨x4, h20, h21, h19⟩ => ⟨x4, h20, h21, ⟨h19.1, (match h19.2 with | ⟨x5, h17, h18, h16⟩ => ⟨x5, h17, h18, (CallV.mono h16 (fun _ _ _ ⟨r6, h15, h14⟩ => ⟨r6, h15, ⟨h14.1, (match h14.2 with | ⟨x6, h12, h13, h11⟩ => ⟨x6, h12, h13, ⟨h11.1, (match h11.2 with | ⟨x7, h9, h10, h8⟩ => ⟨x7, h9, h10, (CallV.mono h8 (fun _ _ _ ⟨r7, h7, h6⟩ => ⟨r7, h7, (CallV.mono h6 (fun _ _ _ ⟨r8, h5, h4⟩ => ⟨r8, h5, ⟨h4.1, ⟨h4.2.1, ⟨h4.2.2.1, ⟨h4.2.2.2.1, (Bb0 _ _ _ _ _ h4.2.2.2.2)⟩⟩⟩⟩⟩))⟩))⟩)⟩⟩)⟩⟩))⟩)⟩⟩)⟩, fun h22 => ((h25.2 x3 V6 h23 h24).2 h22)⟩⟩⟩))⟩))⟩))⟩))⟩))⟩⟩))

/-- waveport/transform.stage[waveport/num.Num] -/
theorem transform_stage_num_Num__vc : type_of% (fun p0 p1 V R I0 J0 => transform_stage_num_Num__v0 p0 p1 V R I0 J0 (transform_stage_num_Num__sk.eq_1 ..)) := fun p0 p1 V R I0 J0 => transform_stage_num_Num__v0 p0 p1 V R I0 J0 (transform_stage_num_Num__sk.eq_1 ..)

end Go.Proofs.Ytnbjnokgmeamdaa
