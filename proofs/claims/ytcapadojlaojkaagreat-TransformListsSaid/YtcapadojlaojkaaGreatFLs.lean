/- Part of the proof; it has the parts FLs. -/
import Derived.Test.YtcapadojlaojkaaGreatFStage
set_option maxRecDepth 100000
set_option maxHeartbeats 4000000
namespace Go.Proofs.YtcapadojlaojkaaGreat
open Go Go.Vc Go.Proofs

structure L_waveportlaw07_plain_0 where
  t11 : Int
  o8 : List Value
/-- waveport/waveportlaw07.plain -/
theorem waveportlaw07_plain_vc (p0 : Sl) (V : View) (R : Value → View → Prop) (I_waveportlaw07_plain_0 : Unit → L_waveportlaw07_plain_0 → View → Prop) (mu_waveportlaw07_plain_0 : Unit → L_waveportlaw07_plain_0 → View → Nat)
  (h :
    ((0 : Int) ≤ (p0.len : Int) ∧ ((p0.len : Int) : Int) ≤ (p0.len : Int) ∧ (24 : Int) * (p0.len : Int) ≤ 281474976710656 ∧ ((p0.len : Int) : Int) ≤ 9223372036854775807) ∧
    I_waveportlaw07_plain_0 () (L_waveportlaw07_plain_0.mk 0 ((List.replicate (Int.toNat (p0.len : Int)) [Value.int .i64 0, Value.int .i64 0, Value.int .i64 0]).flatten)) V ∧
    (∀ (x2 : L_waveportlaw07_plain_0) (V1 : View), View.le V V1 → I_waveportlaw07_plain_0 () x2 V1 →
      ((decide ((x2.t11 : Int) < (p0.len : Int))) = true →
        ((0 : Int) ≤ x2.t11 ∧ (x2.t11 : Int) < (p0.len : Nat) ∧ Option.isSome p0.a = true) ∧
      ∃ x3 : RatV, View.has V1 (Option.map (fun q => Addr.add q (Int.toNat x2.t11 * 3)) p0.a) (x3.val).cells.toList ∧ Option.isSome (Option.map (fun q => Addr.add q (Int.toNat x2.t11 * 3)) p0.a) = true ∧
      CallV Tryz.prog 105 #[x3.val] V1 fun v V2 => ∃ r1 : RatV, v = r1.val ∧ -- waveportlaw07.small
      ((0 : Int) ≤ x2.t11 ∧ (x2.t11 : Int) < (Int.toNat (p0.len : Int) : Nat)) ∧
      0 + Int.toNat x2.t11 * 3 + 3 ≤ List.length x2.o8 ∧
      I_waveportlaw07_plain_0 () (L_waveportlaw07_plain_0.mk (IntKind.i64.wrap (x2.t11 + 1)) (setL x2.o8 (0 + Int.toNat x2.t11 * 3) [.int .i64 r1.re, .int .i64 r1.im, .int .i64 r1.den])) V2 ∧ mu_waveportlaw07_plain_0 () (L_waveportlaw07_plain_0.mk (IntKind.i64.wrap (x2.t11 + 1)) (setL x2.o8 (0 + Int.toNat x2.t11 * 3) [.int .i64 r1.re, .int .i64 r1.im, .int .i64 r1.den])) V2 < mu_waveportlaw07_plain_0 () x2 V1) ∧
      ((decide ((x2.t11 : Int) < (p0.len : Int))) = false →
        ∀ (b1 : Nat) (V3 : View), View.le V1 V3 → V3 b1 = some (List.toArray x2.o8) →
    R ((Sl.mk (some (Addr.mk b1 0 none)) (Int.toNat (p0.len : Int)) (Int.toNat (p0.len : Int))).v) V3))) :
  CallV Tryz.prog 38 #[p0.v] V R :=
  calls_of_vc (Shp := Shp) hmixed Tryz.func38 (c := Tryz.f38.body.getD .skip) (args := [p0.v]) (by kernel_rfl)
    (.seq (.reg [⟨2, 2, false⟩]) (.seq (.reg [⟨6, 2, false⟩, ⟨7, 0, false⟩, ⟨8, 3, false⟩, ⟨3, 2, false⟩]) (.seq (.seq (.reg [⟨9, 2, false⟩, ⟨10, 0, false⟩, ⟨11, 2, false⟩]) (.block (.loop Unit L_waveportlaw07_plain_0 (fun _ => ()) (fun c x => { tm := spT 23 0 [(3, .osl 8 0 (Int.toNat (p0.len : Int)) (Int.toNat (p0.len : Int))), (9, .val (p0.v)), (10, .val (.int .i64 (p0.len : Int))), (11, .val (.int .i64 x.t11))], own := spO 23 0 [(8, ⟨62, .dyn x.o8⟩)] }) I_waveportlaw07_plain_0 mu_waveportlaw07_plain_0 (.seq (.reg [⟨12, 0, false⟩]) (.seq (.cond .leaf .leaf) (.seq (.block (.seq (.reg [⟨13, 2, false⟩, ⟨14, 7, false⟩, ⟨15, 5, false⟩, ⟨5, 3, false⟩, ⟨4, 2, false⟩, ⟨5, 6, false⟩]) (.reg [⟨16, 2, false⟩, ⟨17, 2, false⟩, ⟨5, 4, false⟩, ⟨19, 10, false⟩, ⟨20, 7, false⟩, ⟨8, 6, false⟩]))) (.reg [⟨21, 0, false⟩, ⟨11, 2, false⟩]))))))) (.seq (.reg [⟨22, 2, false⟩, ⟨2, 2, false⟩]) (.pub 8 .leaf)))))
    (Eq.mpr (by kernel_rfl) (show ((0 : Int) ≤ (p0.len : Int) ∧ ((p0.len : Int) : Int) ≤ (p0.len : Int) ∧ (24 : Int) * (p0.len : Int) ≤ 281474976710656 ∧ ((p0.len : Int) : Int) ≤ 9223372036854775807) ∧
    (∃ x1 : L_waveportlaw07_plain_0, ((SV.osl 8 0 (Int.toNat (p0.len : Int)) (Int.toNat (p0.len : Int)) = SV.osl 8 0 (Int.toNat (p0.len : Int)) (Int.toNat (p0.len : Int)) ∧ SV.val (p0.v) = SV.val (p0.v) ∧ SV.val (.int .i64 (p0.len : Int)) = SV.val (.int .i64 (p0.len : Int)) ∧ SV.val (.int .i64 0) = SV.val (.int .i64 x1.t11) ∧ True) ∧ ((some (⟨62, .dyn ((List.replicate (Int.toNat (p0.len : Int)) [Value.int .i64 0, Value.int .i64 0, Value.int .i64 0]).flatten)⟩) : Option OB) = some (⟨62, .dyn x1.o8⟩) ∧ True)) ∧ I_waveportlaw07_plain_0 () x1 V) ∧
    (∀ (x2 : L_waveportlaw07_plain_0) (V1 : View), View.le V V1 → I_waveportlaw07_plain_0 () x2 V1 →
      ((decide ((x2.t11 : Int) < (p0.len : Int))) = true →
        ((0 : Int) ≤ x2.t11 ∧ (x2.t11 : Int) < (p0.len : Nat) ∧ Option.isSome p0.a = true) ∧
      ∃ x3 : RatV, View.has V1 (Option.map (fun q => Addr.add q (Int.toNat x2.t11 * 3)) p0.a) (x3.val).cells.toList ∧ Option.isSome (Option.map (fun q => Addr.add q (Int.toNat x2.t11 * 3)) p0.a) = true ∧
      CallV Tryz.prog 105 #[x3.val] V1 fun v V2 => ∃ r1 : RatV, v = r1.val ∧ -- waveportlaw07.small
      ((0 : Int) ≤ x2.t11 ∧ (x2.t11 : Int) < (Int.toNat (p0.len : Int) : Nat)) ∧
      0 + Int.toNat x2.t11 * 3 + 3 ≤ List.length x2.o8 ∧
      ∃ x4 : L_waveportlaw07_plain_0, ((SV.osl 8 0 (Int.toNat (p0.len : Int)) (Int.toNat (p0.len : Int)) = SV.osl 8 0 (Int.toNat (p0.len : Int)) (Int.toNat (p0.len : Int)) ∧ SV.val (p0.v) = SV.val (p0.v) ∧ SV.val (.int .i64 (p0.len : Int)) = SV.val (.int .i64 (p0.len : Int)) ∧ SV.val (.int .i64 (IntKind.i64.wrap (x2.t11 + 1))) = SV.val (.int .i64 x4.t11) ∧ True) ∧ ((some (⟨62, .dyn (setL x2.o8 (0 + Int.toNat x2.t11 * 3) [.int .i64 r1.re, .int .i64 r1.im, .int .i64 r1.den])⟩) : Option OB) = some (⟨62, .dyn x4.o8⟩) ∧ True)) ∧ I_waveportlaw07_plain_0 () x4 V2 ∧ mu_waveportlaw07_plain_0 () x4 V2 < mu_waveportlaw07_plain_0 () x2 V1) ∧
      ((decide ((x2.t11 : Int) < (p0.len : Int))) = false →
        ∀ (b1 : Nat) (V3 : View), View.le V1 V3 → V3 b1 = some (List.toArray x2.o8) →
    R ((Sl.mk (some (Addr.mk b1 0 none)) (Int.toNat (p0.len : Int)) (Int.toNat (p0.len : Int))).v) V3)) from ⟨h.1, ⟨⟨(L_waveportlaw07_plain_0.mk 0 ((List.replicate (Int.toNat (p0.len : Int)) [Value.int .i64 0, Value.int .i64 0, Value.int .i64 0]).flatten)), ⟨⟨rfl, rfl, rfl, rfl, trivial⟩, ⟨rfl, trivial⟩⟩, h.2.1⟩, fun x2 V1 h9 h10 => ⟨fun h8 => ⟨((h.2.2 x2 V1 h9 h10).1 h8).1, (match ((h.2.2 x2 V1 h9 h10).1 h8).2 with | ⟨x3, h4, h5, h3⟩ => ⟨x3, h4, h5, (CallV.mono h3 (fun _ _ _ ⟨r1, h2, h1⟩ => ⟨r1, h2, ⟨h1.1, ⟨h1.2.1, ⟨(L_waveportlaw07_plain_0.mk (IntKind.i64.wrap (x2.t11 + 1)) (setL x2.o8 (0 + Int.toNat x2.t11 * 3) [.int .i64 r1.re, .int .i64 r1.im, .int .i64 r1.den])), ⟨⟨rfl, rfl, rfl, rfl, trivial⟩, ⟨rfl, trivial⟩⟩, h1.2.2.1, h1.2.2.2⟩⟩⟩⟩))⟩)⟩, fun h8 => (fun b1 V3 h6 h7 => (((h.2.2 x2 V1 h9 h10).2 h8) b1 V3 h6 h7))⟩⟩⟩))

/-- waveport/waveportlaw07.TransformLists -/
theorem waveportlaw07_TransformLists_vc (p0 : Sl) (p1 : Sl) (V : View) (R : Value → View → Prop) 
  (h :
    ((decide (((p0.len : Int) : Int) > 20)) = true →
    (true = true →
      CallV Tryz.prog 37 #[] V fun v V1 => ∃ r1 : Bool, v = .bool r1 ∧ -- waveportlaw07.awake
      R (.bool r1) V1) ∧
    (true = false →
      CallV Tryz.prog 38 #[p0.v] V fun v V2 => ∃ r2 : Sl, v = r2.v ∧ -- waveportlaw07.plain
    CallV Tryz.prog 38 #[p1.v] V2 fun v V3 => ∃ r3 : Sl, v = r3.v ∧ -- waveportlaw07.plain
    CallV Tryz.prog 39 #[r2.v] V3 fun v V4 => ∃ r4 : Sl, v = r4.v ∧ -- waveportlaw01.List
    CallV Tryz.prog 39 #[r3.v] V4 fun v V5 => ∃ r5 : Sl, v = r5.v ∧ -- waveportlaw01.List
    CallV Tryz.prog 40 #[r2.v] V5 fun v V6 => ∃ r6 : Sl, v = r6.v ∧ -- waveportlaw07.refList
    CallV Tryz.prog 40 #[r3.v] V6 fun v V7 => ∃ r7 : Sl, v = r7.v ∧ -- waveportlaw07.refList
    CallV Tryz.prog 41 #[r4.v, r5.v] V7 fun v V8 => ∃ (r8 : Sl) (r9 : Int), v = .tuple #[r8.v, .int .i64 r9] ∧ -- transform.Forward[num.Num]
    CallV Tryz.prog 42 #[r6.v, r7.v] V8 fun v V9 => ∃ (r10 : Sl) (r11 : Int), v = .tuple #[r10.v, .int .i64 r11] ∧ -- waveportref07.Forward
    CallV Tryz.prog 43 #[r8.v, .int .i64 r9, r10.v, .int .i64 r11] V9 fun v V10 => ∃ r12 : Bool, v = .bool r12 ∧ -- waveportlaw07.answers
    ((!r12) = true →
      R (.bool false) V10) ∧
    ((!r12) = false →
      CallV Tryz.prog 44 #[r4.v, r5.v] V10 fun v V11 => ∃ (r13 : Sl) (r14 : Int), v = .tuple #[r13.v, .int .i64 r14] ∧ -- transform.Back[num.Num]
    CallV Tryz.prog 45 #[r6.v, r7.v] V11 fun v V12 => ∃ (r15 : Sl) (r16 : Int), v = .tuple #[r15.v, .int .i64 r16] ∧ -- waveportref07.Back
    CallV Tryz.prog 43 #[r13.v, .int .i64 r14, r15.v, .int .i64 r16] V12 fun v V13 => ∃ r17 : Bool, v = .bool r17 ∧ -- waveportlaw07.answers
    ((!r17) = true →
      R (.bool false) V13) ∧
    ((!r17) = false →
      CallV Tryz.prog 46 #[r4.v, r5.v] V13 fun v V14 => ∃ (r18 : Sl) (r19 : Int), v = .tuple #[r18.v, .int .i64 r19] ∧ -- transform.Fast[num.Num]
    CallV Tryz.prog 47 #[r6.v, r7.v] V14 fun v V15 => ∃ (r20 : Sl) (r21 : Int), v = .tuple #[r20.v, .int .i64 r21] ∧ -- waveportref07.Fast
    CallV Tryz.prog 43 #[r18.v, .int .i64 r19, r20.v, .int .i64 r21] V15 fun v V16 => ∃ r22 : Bool, v = .bool r22 ∧ -- waveportlaw07.answers
    ((!r22) = true →
      R (.bool false) V16) ∧
    ((!r22) = false →
      CallV Tryz.prog 48 #[r4.v, r5.v] V16 fun v V17 => ∃ (r23 : Sl) (r24 : Int), v = .tuple #[r23.v, .int .i64 r24] ∧ -- transform.FastBack[num.Num]
    CallV Tryz.prog 49 #[r6.v, r7.v] V17 fun v V18 => ∃ (r25 : Sl) (r26 : Int), v = .tuple #[r25.v, .int .i64 r26] ∧ -- waveportref07.FastBack
    CallV Tryz.prog 43 #[r23.v, .int .i64 r24, r25.v, .int .i64 r26] V18 fun v V19 => ∃ r27 : Bool, v = .bool r27 ∧ -- waveportlaw07.answers
    (r27 = true →
    CallV Tryz.prog 37 #[] V19 fun v V20 => ∃ r28 : Bool, v = .bool r28 ∧ -- waveportlaw07.awake
    R (.bool r28) V20) ∧
    (r27 = false →
    R (.bool false) V19)))))) ∧
    ((decide (((p0.len : Int) : Int) > 20)) = false →
    ((decide (((p1.len : Int) : Int) > 20)) = true →
      CallV Tryz.prog 37 #[] V fun v V21 => ∃ r29 : Bool, v = .bool r29 ∧ -- waveportlaw07.awake
      R (.bool r29) V21) ∧
    ((decide (((p1.len : Int) : Int) > 20)) = false →
      CallV Tryz.prog 38 #[p0.v] V fun v V22 => ∃ r30 : Sl, v = r30.v ∧ -- waveportlaw07.plain
    CallV Tryz.prog 38 #[p1.v] V22 fun v V23 => ∃ r31 : Sl, v = r31.v ∧ -- waveportlaw07.plain
    CallV Tryz.prog 39 #[r30.v] V23 fun v V24 => ∃ r32 : Sl, v = r32.v ∧ -- waveportlaw01.List
    CallV Tryz.prog 39 #[r31.v] V24 fun v V25 => ∃ r33 : Sl, v = r33.v ∧ -- waveportlaw01.List
    CallV Tryz.prog 40 #[r30.v] V25 fun v V26 => ∃ r34 : Sl, v = r34.v ∧ -- waveportlaw07.refList
    CallV Tryz.prog 40 #[r31.v] V26 fun v V27 => ∃ r35 : Sl, v = r35.v ∧ -- waveportlaw07.refList
    CallV Tryz.prog 41 #[r32.v, r33.v] V27 fun v V28 => ∃ (r36 : Sl) (r37 : Int), v = .tuple #[r36.v, .int .i64 r37] ∧ -- transform.Forward[num.Num]
    CallV Tryz.prog 42 #[r34.v, r35.v] V28 fun v V29 => ∃ (r38 : Sl) (r39 : Int), v = .tuple #[r38.v, .int .i64 r39] ∧ -- waveportref07.Forward
    CallV Tryz.prog 43 #[r36.v, .int .i64 r37, r38.v, .int .i64 r39] V29 fun v V30 => ∃ r40 : Bool, v = .bool r40 ∧ -- waveportlaw07.answers
    ((!r40) = true →
      R (.bool false) V30) ∧
    ((!r40) = false →
      CallV Tryz.prog 44 #[r32.v, r33.v] V30 fun v V31 => ∃ (r41 : Sl) (r42 : Int), v = .tuple #[r41.v, .int .i64 r42] ∧ -- transform.Back[num.Num]
    CallV Tryz.prog 45 #[r34.v, r35.v] V31 fun v V32 => ∃ (r43 : Sl) (r44 : Int), v = .tuple #[r43.v, .int .i64 r44] ∧ -- waveportref07.Back
    CallV Tryz.prog 43 #[r41.v, .int .i64 r42, r43.v, .int .i64 r44] V32 fun v V33 => ∃ r45 : Bool, v = .bool r45 ∧ -- waveportlaw07.answers
    ((!r45) = true →
      R (.bool false) V33) ∧
    ((!r45) = false →
      CallV Tryz.prog 46 #[r32.v, r33.v] V33 fun v V34 => ∃ (r46 : Sl) (r47 : Int), v = .tuple #[r46.v, .int .i64 r47] ∧ -- transform.Fast[num.Num]
    CallV Tryz.prog 47 #[r34.v, r35.v] V34 fun v V35 => ∃ (r48 : Sl) (r49 : Int), v = .tuple #[r48.v, .int .i64 r49] ∧ -- waveportref07.Fast
    CallV Tryz.prog 43 #[r46.v, .int .i64 r47, r48.v, .int .i64 r49] V35 fun v V36 => ∃ r50 : Bool, v = .bool r50 ∧ -- waveportlaw07.answers
    ((!r50) = true →
      R (.bool false) V36) ∧
    ((!r50) = false →
      CallV Tryz.prog 48 #[r32.v, r33.v] V36 fun v V37 => ∃ (r51 : Sl) (r52 : Int), v = .tuple #[r51.v, .int .i64 r52] ∧ -- transform.FastBack[num.Num]
    CallV Tryz.prog 49 #[r34.v, r35.v] V37 fun v V38 => ∃ (r53 : Sl) (r54 : Int), v = .tuple #[r53.v, .int .i64 r54] ∧ -- waveportref07.FastBack
    CallV Tryz.prog 43 #[r51.v, .int .i64 r52, r53.v, .int .i64 r54] V38 fun v V39 => ∃ r55 : Bool, v = .bool r55 ∧ -- waveportlaw07.answers
    (r55 = true →
    CallV Tryz.prog 37 #[] V39 fun v V40 => ∃ r56 : Bool, v = .bool r56 ∧ -- waveportlaw07.awake
    R (.bool r56) V40) ∧
    (r55 = false →
    R (.bool false) V39))))))) :
  CallV Tryz.prog 7 #[p0.v, p1.v] V R :=
  calls_of_vc (Shp := Shp) hmixed Tryz.func7 (c := Tryz.f7.body.getD .skip) (args := [p0.v, p1.v]) (by kernel_rfl)
    (.seq (.reg [⟨4, 2, false⟩]) (.seq (.seq (.reg [⟨13, 2, false⟩, ⟨14, 0, false⟩, ⟨15, 0, false⟩, ⟨16, 2, true⟩, ⟨17, 2, false⟩, ⟨18, 0, false⟩, ⟨19, 0, false⟩, ⟨20, 2, false⟩]) (.cond (.seq (.reg [⟨21, 10, false⟩, ⟨4, 2, false⟩]) .leaf) .leaf)) (.seq (.reg [⟨22, 2, false⟩, ⟨23, 10, false⟩, ⟨0, 2, false⟩]) (.seq (.reg [⟨24, 2, false⟩, ⟨25, 10, false⟩, ⟨1, 2, false⟩]) (.seq (.reg [⟨26, 2, false⟩, ⟨27, 10, false⟩, ⟨28, 2, false⟩, ⟨29, 10, false⟩, ⟨5, 2, false⟩, ⟨6, 2, false⟩]) (.seq (.reg [⟨30, 2, false⟩, ⟨31, 10, false⟩, ⟨32, 2, false⟩, ⟨33, 10, false⟩, ⟨7, 2, false⟩, ⟨8, 2, false⟩]) (.seq (.reg [⟨35, 2, false⟩, ⟨36, 2, false⟩, ⟨37, 10, false⟩, ⟨34, 2, false⟩, ⟨38, 0, false⟩, ⟨39, 0, false⟩, ⟨9, 2, false⟩, ⟨10, 2, false⟩]) (.seq (.reg [⟨41, 2, false⟩, ⟨42, 2, false⟩, ⟨43, 10, false⟩, ⟨40, 2, false⟩, ⟨44, 0, false⟩, ⟨45, 0, false⟩, ⟨11, 2, false⟩, ⟨12, 2, false⟩]) (.seq (.seq (.reg [⟨46, 2, false⟩, ⟨47, 2, false⟩, ⟨48, 2, false⟩, ⟨49, 2, false⟩, ⟨50, 10, false⟩, ⟨51, 0, false⟩]) (.cond (.seq (.reg [⟨4, 2, false⟩]) .leaf) .leaf)) (.seq (.reg [⟨53, 2, false⟩, ⟨54, 2, false⟩, ⟨55, 10, false⟩, ⟨52, 2, false⟩, ⟨56, 0, false⟩, ⟨57, 0, false⟩, ⟨9, 2, false⟩, ⟨10, 2, false⟩]) (.seq (.reg [⟨59, 2, false⟩, ⟨60, 2, false⟩, ⟨61, 10, false⟩, ⟨58, 2, false⟩, ⟨62, 0, false⟩, ⟨63, 0, false⟩, ⟨11, 2, false⟩, ⟨12, 2, false⟩]) (.seq (.seq (.reg [⟨64, 2, false⟩, ⟨65, 2, false⟩, ⟨66, 2, false⟩, ⟨67, 2, false⟩, ⟨68, 10, false⟩, ⟨69, 0, false⟩]) (.cond (.seq (.reg [⟨4, 2, false⟩]) .leaf) .leaf)) (.seq (.reg [⟨71, 2, false⟩, ⟨72, 2, false⟩, ⟨73, 10, false⟩, ⟨70, 2, false⟩, ⟨74, 0, false⟩, ⟨75, 0, false⟩, ⟨9, 2, false⟩, ⟨10, 2, false⟩]) (.seq (.reg [⟨77, 2, false⟩, ⟨78, 2, false⟩, ⟨79, 10, false⟩, ⟨76, 2, false⟩, ⟨80, 0, false⟩, ⟨81, 0, false⟩, ⟨11, 2, false⟩, ⟨12, 2, false⟩]) (.seq (.seq (.reg [⟨82, 2, false⟩, ⟨83, 2, false⟩, ⟨84, 2, false⟩, ⟨85, 2, false⟩, ⟨86, 10, false⟩, ⟨87, 0, false⟩]) (.cond (.seq (.reg [⟨4, 2, false⟩]) .leaf) .leaf)) (.seq (.reg [⟨89, 2, false⟩, ⟨90, 2, false⟩, ⟨91, 10, false⟩, ⟨88, 2, false⟩, ⟨92, 0, false⟩, ⟨93, 0, false⟩, ⟨9, 2, false⟩, ⟨10, 2, false⟩]) (.seq (.reg [⟨95, 2, false⟩, ⟨96, 2, false⟩, ⟨97, 10, false⟩, ⟨94, 2, false⟩, ⟨98, 0, false⟩, ⟨99, 0, false⟩, ⟨11, 2, false⟩, ⟨12, 2, false⟩]) (.seq (.reg [⟨100, 2, false⟩, ⟨101, 2, false⟩, ⟨102, 2, false⟩, ⟨103, 2, false⟩, ⟨104, 10, false⟩, ⟨105, 2, true⟩, ⟨106, 10, false⟩, ⟨107, 2, false⟩, ⟨4, 2, false⟩]) .leaf))))))))))))))))))
    (Eq.mpr (by kernel_rfl) h)

end Go.Proofs.YtcapadojlaojkaaGreat
