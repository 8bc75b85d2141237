/- Part of the proof; it has the parts GSl4. -/
import Derived.Test.YtefkpimcffofaaaGSl1
set_option maxRecDepth 100000
set_option maxHeartbeats 4000000
namespace Go.Proofs.Ytefkpimcffofaaa
open Go Go.Vc Go.Proofs
open Go.IntKind (i8 i16 i32 i64 u8 u16 u32 u64)

structure L_waveportlaw08_ScanWhen_0 where
 u : Unit
structure C_waveportlaw08_ScanWhen_0 where
 t7 : Sl
 o9_0 : Bool
 o9_1 : Sl
 o9_2 : Bool
 o9_3 : Sl
 o9_4 : Sl
structure L_waveportlaw08_ScanWhen_1 where
 t51 : Int
structure C_waveportlaw08_ScanWhen_1 where
 t7 : Sl
 t49 : Sl
 t50 : Int
 o9_0 : Bool
 o9_1 : Sl
 o9_2 : Bool
 o9_3 : Sl
 o9_4 : Sl
def waveportlaw08_ScanWhen_f0 (p1 : RatV) (p2 : RatV) (c : C_waveportlaw08_ScanWhen_0) (_w _x : L_waveportlaw08_ScanWhen_0) : Prop := (Q1 (.own 4 0) ∧ Q1 (.own 5 0) ∧ Q1 (.val (c.t7.v)) ∧ Q1 (.own 9 0) ∧ True) ∧ (O2 ⟨59, .fixed [.val (.int .i64 p1.re), .val (.int .i64 p1.im), .val (.int .i64 p1.den)]⟩ ⟨59, .fixed [.val (.int .i64 p1.re), .val (.int .i64 p1.im), .val (.int .i64 p1.den)]⟩ ∧ O2 ⟨59, .fixed [.val (.int .i64 p2.re), .val (.int .i64 p2.im), .val (.int .i64 p2.den)]⟩ ⟨59, .fixed [.val (.int .i64 p2.re), .val (.int .i64 p2.im), .val (.int .i64 p2.den)]⟩ ∧ O2 ⟨34, .fixed [.val (.bool c.o9_0), .val (c.o9_1.v), .val (.bool c.o9_2), .val (c.o9_3.v), .val (c.o9_4.v)]⟩ ⟨34, .fixed [.val (.bool c.o9_0), .val (c.o9_1.v), .val (.bool c.o9_2), .val (c.o9_3.v), .val (c.o9_4.v)]⟩ ∧ True)
def waveportlaw08_ScanWhen_f1 (p1 : RatV) (p2 : RatV) (c : C_waveportlaw08_ScanWhen_1) (w x : L_waveportlaw08_ScanWhen_1) : Prop := (Q1 (.own 4 0) ∧ Q1 (.own 5 0) ∧ Q1 (.val (c.t7.v)) ∧ Q1 (.own 9 0) ∧ Q1 (.val (c.t49.v)) ∧ Q1 (.val (.int .i64 c.t50)) ∧ E2 (.val (.int .i64 w.t51)) (.val (.int .i64 x.t51)) ∧ True) ∧ (O2 ⟨59, .fixed [.val (.int .i64 p1.re), .val (.int .i64 p1.im), .val (.int .i64 p1.den)]⟩ ⟨59, .fixed [.val (.int .i64 p1.re), .val (.int .i64 p1.im), .val (.int .i64 p1.den)]⟩ ∧ O2 ⟨59, .fixed [.val (.int .i64 p2.re), .val (.int .i64 p2.im), .val (.int .i64 p2.den)]⟩ ⟨59, .fixed [.val (.int .i64 p2.re), .val (.int .i64 p2.im), .val (.int .i64 p2.den)]⟩ ∧ O2 ⟨34, .fixed [.val (.bool c.o9_0), .val (c.o9_1.v), .val (.bool c.o9_2), .val (c.o9_3.v), .val (c.o9_4.v)]⟩ ⟨34, .fixed [.val (.bool c.o9_0), .val (c.o9_1.v), .val (.bool c.o9_2), .val (c.o9_3.v), .val (c.o9_4.v)]⟩ ∧ True)
def waveportlaw08_ScanWhen_sk (p0 : Sl) (p1 : RatV) (p2 : RatV) (V : View) (R : Value → View → Prop) (I0 : C_waveportlaw08_ScanWhen_0 → L_waveportlaw08_ScanWhen_0 → View → Prop) (I1 : C_waveportlaw08_ScanWhen_1 → L_waveportlaw08_ScanWhen_1 → View → Prop) (E0 : C_waveportlaw08_ScanWhen_0 → L_waveportlaw08_ScanWhen_0 → View → Prop) (E1 : C_waveportlaw08_ScanWhen_1 → L_waveportlaw08_ScanWhen_1 → View → Prop) (B1 : C_waveportlaw08_ScanWhen_1 → L_waveportlaw08_ScanWhen_1 → View → L_waveportlaw08_ScanWhen_1 → View → Prop) : Prop :=
 ((decide (((p0.len : Int) : Int) > 40)) = true →
 CallV Try.prog 25 #[] V fun v V1 => ∃ r1 : Bool, v = .bool r1 ∧
 R (.bool r1) V1) ∧
 ((decide (((p0.len : Int) : Int) > 40)) = false →
 CallV Try.prog 26 #[p0.v] V fun v V2 => ∃ (r2 : Sl) (r3 : Sl), v = .tuple #[r2.v, r3.v] ∧
 CallV Try.prog 28 #[p1.val] V2 fun v V3 => ∃ r4 : NumV, v = r4.val ∧
 CallV Try.prog 27 #[r2.v, r4.val] V3 fun v V4 => ∃ (r5 : NumV) (r6 : Int), v = .tuple #[r5.val, .int .i64 r6] ∧
 (((r6 : Int) != 0) = true →
 CallV Try.prog 25 #[] V4 fun v V5 => ∃ r7 : Bool, v = .bool r7 ∧
 R (.bool r7) V5) ∧
 (((r6 : Int) != 0) = false →
 CallV Try.prog 29 #[r2.v, r5.val] V4 fun v V6 => ∃ (r8 : NumV) (r9 : Int), v = .tuple #[r8.val, .int .i64 r9] ∧
 ((((r9 : Int) != 0) = true →
 R (.bool false) V6) ∧
 (((r9 : Int) != 0) = false →
 CallV Try.prog 28 #[p1.val] V6 fun v V8 => ∃ r10 : NumV, v = r10.val ∧
 CallV Try.prog 11 #[r8.val, r10.val] V8 fun v V9 => ∃ r11 : Bool, v = .bool r11 ∧
 ((!r11) = true →
 R (.bool false) V9) ∧
 ((!r11) = false →
 E0 (C_waveportlaw08_ScanWhen_0.mk r2 r5.re.neg r5.re.mag r5.im.neg r5.im.mag r5.under) (L_waveportlaw08_ScanWhen_0.mk ()) V9))) ∧
 (∀ (x1 : L_waveportlaw08_ScanWhen_0) (V7 : View), View.le V6 V7 → I0 (C_waveportlaw08_ScanWhen_0.mk r2 r5.re.neg r5.re.mag r5.im.neg r5.im.mag r5.under) x1 V7 →
 E1 (C_waveportlaw08_ScanWhen_1.mk r2 r2 (r2.len : Int) r5.re.neg r5.re.mag r5.im.neg r5.im.mag r5.under) (L_waveportlaw08_ScanWhen_1.mk 0) V7 ∧
 (∀ (x4 : L_waveportlaw08_ScanWhen_1) (V10 : View), View.le V7 V10 → I1 (C_waveportlaw08_ScanWhen_1.mk r2 r2 (r2.len : Int) r5.re.neg r5.re.mag r5.im.neg r5.im.mag r5.under) x4 V10 →
 ((decide ((x4.t51 : Int) < (r2.len : Int))) = true →
 ((0 : Int) ≤ x4.t51 ∧ (x4.t51 : Int) < (r2.len : Nat) ∧ Option.isSome r2.a = true) ∧
 ∃ x5 : TickV, View.has V10 (Option.map (fun q => Addr.add q (Int.toNat x4.t51 * 10)) r2.a) (x5.val).cells.toList ∧ Option.isSome (Option.map (fun q => Addr.add q (Int.toNat x4.t51 * 10)) r2.a) = true ∧
 CallV Try.prog 28 #[p1.val] V10 fun v V11 => ∃ r12 : NumV, v = r12.val ∧
 CallV Try.prog 11 #[x5.place.val, r12.val] V11 fun v V12 => ∃ r13 : Bool, v = .bool r13 ∧
 (r13 = true →
 CallV Try.prog 30 #[x5.time.val, r5.val] V12 fun v V13 => ∃ r14 : Int, v = .int .i64 r14 ∧
 ((decide ((r14 : Int) < 0)) = true →
 R (.bool false) V13) ∧
 ((decide ((r14 : Int) < 0)) = false →
 B1 (C_waveportlaw08_ScanWhen_1.mk r2 r2 (r2.len : Int) r5.re.neg r5.re.mag r5.im.neg r5.im.mag r5.under) (L_waveportlaw08_ScanWhen_1.mk (i64.wrap (x4.t51 + 1))) V13 x4 V10)) ∧
 (r13 = false →
 B1 (C_waveportlaw08_ScanWhen_1.mk r2 r2 (r2.len : Int) r5.re.neg r5.re.mag r5.im.neg r5.im.mag r5.under) (L_waveportlaw08_ScanWhen_1.mk (i64.wrap (x4.t51 + 1))) V12 x4 V10)) ∧
 ((decide ((x4.t51 : Int) < (r2.len : Int))) = false →
 CallV Try.prog 28 #[p2.val] V10 fun v V14 => ∃ r15 : NumV, v = r15.val ∧
 CallV Try.prog 29 #[r2.v, r15.val] V14 fun v V15 => ∃ (r16 : NumV) (r17 : Int), v = .tuple #[r16.val, .int .i64 r17] ∧
 (((r17 : Int) != 0) = true →
 CallV Try.prog 25 #[] V15 fun v V16 => ∃ r18 : Bool, v = .bool r18 ∧
 R (.bool r18) V16) ∧
 (((r17 : Int) != 0) = false →
 CallV Try.prog 28 #[p2.val] V15 fun v V17 => ∃ r19 : NumV, v = r19.val ∧
 CallV Try.prog 30 #[r19.val, r5.val] V17 fun v V18 => ∃ r20 : Int, v = .int .i64 r20 ∧
 ((decide ((r20 : Int) ≥ 0)) = true →
 CallV Try.prog 25 #[] V18 fun v V19 => ∃ r21 : Bool, v = .bool r21 ∧
 R (.bool r21) V19) ∧
 ((decide ((r20 : Int) ≥ 0)) = false →
 CallV Try.prog 28 #[p1.val] V18 fun v V20 => ∃ r22 : NumV, v = r22.val ∧
 CallV Try.prog 11 #[r16.val, r22.val] V20 fun v V21 => ∃ r23 : Bool, v = .bool r23 ∧
 ((!r23) = true →
 CallV Try.prog 25 #[] V21 fun v V22 => ∃ r24 : Bool, v = .bool r24 ∧
 R (.bool r24) V22) ∧
 ((!r23) = false →
 R (.bool false) V21))))))))

theorem waveportlaw08_ScanWhen_v0 (p0 : Sl) (p1 : RatV) (p2 : RatV) (V : View) (R : Value → View → Prop) (I0 : C_waveportlaw08_ScanWhen_0 → L_waveportlaw08_ScanWhen_0 → View → Prop) (I1 : C_waveportlaw08_ScanWhen_1 → L_waveportlaw08_ScanWhen_1 → View → Prop) (J1 : C_waveportlaw08_ScanWhen_1 → L_waveportlaw08_ScanWhen_1 → View → Nat) {X : Prop} (e : waveportlaw08_ScanWhen_sk p0 p1 p2 V R I0 I1 I0 I1 (fun c w V x U => I1 c w V ∧ J1 c w V < J1 c x U) = X) (h : X) :
 CallV Try.prog 5 #[p0.v, p1.val, p2.val] V R :=
 calls_of_vc (Shp := Shp) hmixed Try.func5 (c := Try.f5.body.getD .skip) (args := [p0.v, p1.val, p2.val]) (by kernel_rfl)
 (.seq (.reg [A 4 3, A 5 3, A 6 9]) (.seq (.seq (.reg [A 15 2, A 16 0, A 17 0]) (.cond (.seq (.reg [A 18 10, A 6 2]) .leaf) .leaf)) (.seq (.reg [A 20 2, A 21 10, A 19 2, A 22 0, A 23 0, A 7 2, A 8 2]) (.seq (.reg [A 25 2, A 4 4, A 27 10, A 28 10, A 24 2, A 29 0, A 30 0, A 9 3, A 9 6, A 10 2]) (.seq (.seq (.reg [A 31 2, A 32 0]) (.cond (.seq (.reg [A 33 10, A 6 2]) .leaf) .leaf)) (.seq (.reg [A 35 2, A 9 4, A 37 10, A 34 2, A 38 0, A 39 0, A 11 3, A 11 6, A 10 2]) (.cut C_waveportlaw08_ScanWhen_0 L_waveportlaw08_ScanWhen_0 (fun σ => C_waveportlaw08_ScanWhen_0.mk (Sl.mk (gSlA (gTm σ 7)) (gSlL (gTm σ 7)) (gSlC (gTm σ 7))) (gBool (gOwn σ 9 0)) (Sl.mk (gSlA (gOwn σ 9 1)) (gSlL (gOwn σ 9 1)) (gSlC (gOwn σ 9 1))) (gBool (gOwn σ 9 2)) (Sl.mk (gSlA (gOwn σ 9 3)) (gSlL (gOwn σ 9 3)) (gSlC (gOwn σ 9 3))) (Sl.mk (gSlA (gOwn σ 9 4)) (gSlL (gOwn σ 9 4)) (gSlC (gOwn σ 9 4)))) (fun c x => { tm := spT 94 0 [(4, .own 4 0), (5, .own 5 0), (7, .val (c.t7.v)), (9, .own 9 0)], own := spO 94 0 [(4, ⟨59, .fixed [.val (.int .i64 p1.re), .val (.int .i64 p1.im), .val (.int .i64 p1.den)]⟩), (5, ⟨59, .fixed [.val (.int .i64 p2.re), .val (.int .i64 p2.im), .val (.int .i64 p2.den)]⟩), (9, ⟨34, .fixed [.val (.bool c.o9_0), .val (c.o9_1.v), .val (.bool c.o9_2), .val (c.o9_3.v), .val (c.o9_4.v)]⟩)] }) I0 (.seq (.draw [(0, A 40 2), (1, A 41 0), (2, ⟨42, 2, true⟩), (3, A 11 4), (4, A 4 4), (5, A 45 10), (6, A 46 10), (7, A 47 20), (8, A 48 20)] [0, 1, 3, 7, 7, 23, 63, 127, 255]) (.cond (.seq (.reg [A 6 9]) .leaf) .leaf)) (.seq (.seq (.reg [A 49 2, A 50 0, A 51 2]) (.block (.loop C_waveportlaw08_ScanWhen_1 L_waveportlaw08_ScanWhen_1 (fun σ => C_waveportlaw08_ScanWhen_1.mk (Sl.mk (gSlA (gTm σ 7)) (gSlL (gTm σ 7)) (gSlC (gTm σ 7))) (Sl.mk (gSlA (gTm σ 49)) (gSlL (gTm σ 49)) (gSlC (gTm σ 49))) (gInt (gTm σ 50)) (gBool (gOwn σ 9 0)) (Sl.mk (gSlA (gOwn σ 9 1)) (gSlL (gOwn σ 9 1)) (gSlC (gOwn σ 9 1))) (gBool (gOwn σ 9 2)) (Sl.mk (gSlA (gOwn σ 9 3)) (gSlL (gOwn σ 9 3)) (gSlC (gOwn σ 9 3))) (Sl.mk (gSlA (gOwn σ 9 4)) (gSlL (gOwn σ 9 4)) (gSlC (gOwn σ 9 4)))) (fun c x => { tm := spT 94 0 [(4, .own 4 0), (5, .own 5 0), (7, .val (c.t7.v)), (9, .own 9 0), (49, .val (c.t49.v)), (50, .val (.int .i64 c.t50)), (51, .val (.int .i64 x.t51))], own := spO 94 0 [(4, ⟨59, .fixed [.val (.int .i64 p1.re), .val (.int .i64 p1.im), .val (.int .i64 p1.den)]⟩), (5, ⟨59, .fixed [.val (.int .i64 p2.re), .val (.int .i64 p2.im), .val (.int .i64 p2.den)]⟩), (9, ⟨34, .fixed [.val (.bool c.o9_0), .val (c.o9_1.v), .val (.bool c.o9_2), .val (c.o9_3.v), .val (c.o9_4.v)]⟩)] }) I1 J1 (.seq (.reg [A 52 0]) (.seq (.cond .leaf .leaf) (.seq (.block (.seq (.reg [A 53 7, A 54 5, A 13 3, A 13 6]) (.seq (.draw [(0, A 55 7), (1, A 13 4), (2, A 4 4), (3, A 58 10), (4, A 59 10), (5, ⟨60, 2, true⟩), (6, A 61 7), (7, A 13 4), (8, A 9 4), (9, A 64 10), (10, A 65 0), (11, A 66 20)] [0, 1, 0, 4, 15, 31, 63, 127, 63, 511, 1023, 2047]) (.cond (.seq (.reg [A 6 9]) .leaf) .leaf)))) (.reg [A 67 0, A 51 2]))))))) (.seq (.reg [A 69 2, A 5 4, A 71 10, A 72 10, A 68 2, A 73 0, A 74 0, A 14 3, A 14 6, A 10 2]) (.seq (.draw [(0, A 75 2), (1, A 76 0), (2, ⟨77, 2, true⟩), (3, A 5 4), (5, A 9 4), (4, A 79 10), (6, A 81 10), (7, A 82 0), (8, A 83 20), (9, ⟨84, 2, true⟩), (10, A 14 4), (11, A 4 4), (12, A 87 10), (13, A 88 10), (14, A 89 20), (15, A 90 20), (16, ⟨91, 2, true⟩), (17, A 92 10), (18, A 93 20), (19, A 6 2)] [0, 1, 3, 7, 15, 7, 63, 127, 255, 511, 1023, 1023, 3071, 8191, 16383, 32767, 65535, 131071, 262143, 524287]) .leaf))))))))))
 (Eq.mpr (by kernel_rfl) (show waveportlaw08_ScanWhen_sk p0 p1 p2 V R I0 I1 (fun c w V => ∃ x, waveportlaw08_ScanWhen_f0 p1 p2 c w x ∧ I0 c x V) (fun c w V => ∃ x, waveportlaw08_ScanWhen_f1 p1 p2 c w x ∧ I1 c x V) (fun c w V y U => ∃ x, waveportlaw08_ScanWhen_f1 p1 p2 c w x ∧ I1 c x V ∧ J1 c x V < J1 c y U) from by
 have h := Eq.mpr e h; unfold waveportlaw08_ScanWhen_sk at h ⊢; have Ee0 := fun c w V (h : I0 c w V) => (⟨w, ⟨⟨rfl, rfl, rfl, rfl, trivial⟩, ⟨rfl, rfl, rfl, trivial⟩⟩, h⟩ : ∃ x, waveportlaw08_ScanWhen_f0 p1 p2 c w x ∧ I0 c x V); have Ee1 := fun c w V (h : I1 c w V) => (⟨w, ⟨⟨rfl, rfl, rfl, rfl, rfl, rfl, rfl, trivial⟩, ⟨rfl, rfl, rfl, trivial⟩⟩, h⟩ : ∃ x, waveportlaw08_ScanWhen_f1 p1 p2 c w x ∧ I1 c x V); have Bb1 := fun c w V y U (h : I1 c w V ∧ J1 c w V < J1 c y U) => (⟨w, ⟨⟨rfl, rfl, rfl, rfl, rfl, rfl, rfl, trivial⟩, ⟨rfl, rfl, rfl, trivial⟩⟩, h⟩ : ∃ x, waveportlaw08_ScanWhen_f1 p1 p2 c w x ∧ I1 c x V ∧ J1 c x V < J1 c y U); exact ⟨fun h57 => (CallV.mono (h.1 h57) (fun _ _ _ ⟨r1, h2, h1⟩ => ⟨r1, h2, h1⟩)), fun h57 => (CallV.mono (h.2 h57) (fun _ _ _ ⟨r2, r3, h56, h55⟩ => ⟨r2, r3, h56, (CallV.mono h55 (fun _ _ _ ⟨r4, h54, h53⟩ => ⟨r4, h54, (CallV.mono h53 (fun _ _ _ ⟨r5, r6, h52, h51⟩ => ⟨r5, r6, h52, ⟨fun h50 => (CallV.mono (h51.1 h50) (fun _ _ _ ⟨r7, h4, h3⟩ => ⟨r7, h4, h3⟩)), fun h50 => (CallV.mono (h51.2 h50) (fun _ _ _ ⟨r8, r9, h49, h48⟩ => ⟨r8, r9, h49, ⟨⟨fun h10 => (h48.1.1 h10), fun h10 => (CallV.mono (h48.1.2 h10) (fun _ _ _ ⟨r10, h9, h8⟩ => ⟨r10, h9, (CallV.mono h8 (fun _ _ _ ⟨r11, h7, h6⟩ => ⟨r11, h7, ⟨fun h5 => (h6.1 h5), fun h5 => (Ee0 _ _ _ (h6.2 h5))⟩⟩))⟩))⟩, fun x1 V7 h46 h47 => ⟨(Ee1 _ _ _ (h48.2 x1 V7 h46 h47).1), fun x4 V10 h44 h45 => ⟨fun h43 => ⟨(((h48.2 x1 V7 h46 h47).2 x4 V10 h44 h45).1 h43).1, (match (((h48.2 x1 V7 h46 h47).2 x4 V10 h44 h45).1 h43).2 with | ⟨x5, h20, h21, h19⟩ => ⟨x5, h20, h21, (CallV.mono h19 (fun _ _ _ ⟨r12, h18, h17⟩ => ⟨r12, h18, (CallV.mono h17 (fun _ _ _ ⟨r13, h16, h15⟩ => ⟨r13, h16, ⟨fun h14 => (CallV.mono (h15.1 h14) (fun _ _ _ ⟨r14, h13, h12⟩ => ⟨r14, h13, ⟨fun h11 => (h12.1 h11), fun h11 => (Bb1 _ _ _ _ _ (h12.2 h11))⟩⟩)), fun h14 => (Bb1 _ _ _ _ _ (h15.2 h14))⟩⟩))⟩))⟩)⟩, fun h43 => (CallV.mono (((h48.2 x1 V7 h46 h47).2 x4 V10 h44 h45).2 h43) (fun _ _ _ ⟨r15, h42, h41⟩ => ⟨r15, h42, (CallV.mono h41 (fun _ _ _ ⟨r16, r17, h40, h39⟩ => ⟨r16, r17, h40, ⟨fun h38 => (CallV.mono (h39.1 h38) (fun _ _ _ ⟨r18, h23, h22⟩ => ⟨r18, h23, h22⟩)), fun h38 => (CallV.mono (h39.2 h38) (fun _ _ _ ⟨r19, h37, h36⟩ => ⟨r19, h37, (CallV.mono h36 (fun _ _ _ ⟨r20, h35, h34⟩ => ⟨r20, h35, ⟨fun h33 => (CallV.mono (h34.1 h33) (fun _ _ _ ⟨r21, h25, h24⟩ => ⟨r21, h25, h24⟩)), fun h33 => (CallV.mono (h34.2 h33) (fun _ _ _ ⟨r22, h32, h31⟩ => ⟨r22, h32, (CallV.mono h31 (fun _ _ _ ⟨r23, h30, h29⟩ => ⟨r23, h30, ⟨fun h28 => (CallV.mono (h29.1 h28) (fun _ _ _ ⟨r24, h27, h26⟩ => ⟨r24, h27, h26⟩)), fun h28 => (h29.2 h28)⟩⟩))⟩))⟩⟩))⟩))⟩⟩))⟩))⟩⟩⟩⟩))⟩⟩))⟩))⟩))⟩))

theorem waveportlaw08_ScanWhen_vc : type_of% (fun p0 p1 p2 V R I0 I1 J1 => waveportlaw08_ScanWhen_v0 p0 p1 p2 V R I0 I1 J1 (waveportlaw08_ScanWhen_sk.eq_1 ..)) := fun p0 p1 p2 V R I0 I1 J1 => waveportlaw08_ScanWhen_v0 p0 p1 p2 V R I0 I1 J1 (waveportlaw08_ScanWhen_sk.eq_1 ..)

end Go.Proofs.Ytefkpimcffofaaa
