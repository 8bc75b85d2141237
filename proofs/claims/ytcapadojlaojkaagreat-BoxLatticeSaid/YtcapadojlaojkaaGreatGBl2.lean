/- Part of the proof; it has the parts GBl2. -/
import Derived.Test.YtcapadojlaojkaaGreatFNum1
set_option maxRecDepth 100000
set_option maxHeartbeats 4000000
namespace Go.Proofs.YtcapadojlaojkaaGreat
open Go Go.Vc Go.Proofs

/-- (waveport/waveportlaw02.Sides).Both -/
theorem law2_Sides_Both_vc (p0 : SidesV) (V : View) (R : Value → View → Prop) 
  (h :
    CallV Tryz.prog 75 #[p0.re.val] V fun v V1 => ∃ (r1 : SpV) (r2 : SpV) (r3 : Bool), v = .tuple #[r1.val, r2.val, .bool r3] ∧ -- (waveportlaw02.Ends).span
    CallV Tryz.prog 75 #[p0.im.val] V1 fun v V2 => ∃ (r4 : SpV) (r5 : SpV) (r6 : Bool), v = .tuple #[r4.val, r5.val, .bool r6] ∧ -- (waveportlaw02.Ends).span
    CallV Tryz.prog 18 #[r1.val, r4.val] V2 fun v V3 => ∃ r7 : BoxV, v = r7.val ∧ -- box.Pair
    (r3 = true →
    R (.tuple #[r7.val, (BoxV.mk r2 r5).val, .bool r6]) V3) ∧
    (r3 = false →
    R (.tuple #[r7.val, (BoxV.mk r2 r5).val, .bool false]) V3)) :
  CallV Tryz.prog 19 #[p0.val] V R :=
  calls_of_vc (Shp := Shp) hmixed Tryz.func19 (c := Tryz.f19.body.getD .skip) (args := [p0.val]) (by kernel_rfl)
    (.seq (.reg [⟨1, 3, false⟩, ⟨2, 3, false⟩, ⟨3, 3, false⟩, ⟨4, 9, false⟩]) (.seq (.reg [⟨12, 7, false⟩, ⟨1, 4, false⟩, ⟨14, 10, false⟩, ⟨11, 2, false⟩, ⟨15, 0, false⟩, ⟨16, 0, false⟩, ⟨17, 0, false⟩, ⟨5, 3, false⟩, ⟨6, 3, false⟩, ⟨5, 6, false⟩, ⟨6, 6, false⟩, ⟨7, 2, false⟩]) (.seq (.reg [⟨19, 7, false⟩, ⟨1, 4, false⟩, ⟨21, 10, false⟩, ⟨18, 2, false⟩, ⟨22, 0, false⟩, ⟨23, 0, false⟩, ⟨24, 0, false⟩, ⟨8, 3, false⟩, ⟨9, 3, false⟩, ⟨8, 6, false⟩, ⟨9, 6, false⟩, ⟨10, 2, false⟩]) (.seq (.draw [(0, ⟨5, 4, false⟩), (1, ⟨8, 4, false⟩), (3, ⟨6, 4, false⟩), (4, ⟨9, 4, false⟩), (5, ⟨30, 0, false⟩), (6, ⟨31, 2, false⟩), (2, ⟨27, 10, false⟩), (7, ⟨32, 2, true⟩), (8, ⟨33, 2, false⟩), (9, ⟨34, 20, false⟩), (10, ⟨2, 6, false⟩), (11, ⟨3, 6, false⟩), (12, ⟨4, 2, false⟩)] [0, 0, 3, 0, 0, 24, 0, 71, 199, 455, 199, 1279, 4095]) .leaf))))
    (Eq.mpr (by kernel_rfl) h)

/-- waveport/waveportlaw02.BoxLattice -/
theorem law2_BoxLattice_vc (p0 : SidesV) (p1 : SidesV) (p2 : SidesV) (V : View) (R : Value → View → Prop) 
  (h :
    CallV Tryz.prog 10 #[] V fun v V1 => ∃ r1 : Bool, v = .bool r1 ∧ -- waveportlaw02.awake
    ((!r1) = true →
      R (.bool false) V1) ∧
    ((!r1) = false →
      CallV Tryz.prog 19 #[p0.val] V1 fun v V2 => ∃ (r2 : BoxV) (r3 : BoxV) (r4 : Bool), v = .tuple #[r2.val, r3.val, .bool r4] ∧ -- (waveportlaw02.Sides).Both
    CallV Tryz.prog 19 #[p1.val] V2 fun v V3 => ∃ (r5 : BoxV) (r6 : BoxV) (r7 : Bool), v = .tuple #[r5.val, r6.val, .bool r7] ∧ -- (waveportlaw02.Sides).Both
    CallV Tryz.prog 19 #[p2.val] V3 fun v V4 => ∃ (r8 : BoxV) (r9 : BoxV) (r10 : Bool), v = .tuple #[r8.val, r9.val, .bool r10] ∧ -- (waveportlaw02.Sides).Both
    ((!r4) = true →
    R (.bool true) V4) ∧
    ((!r4) = false →
    ((!r7) = true →
    R (.bool true) V4) ∧
    ((!r7) = false →
    ((!r10) = true →
      R (.bool true) V4) ∧
    ((!r10) = false →
      CallV Tryz.prog 26 #[r2.val, r5.val] V4 fun v V5 => ∃ r11 : BoxV, v = r11.val ∧ -- (box.Box).Hull
    CallV Tryz.prog 26 #[r5.val, r2.val] V5 fun v V6 => ∃ r12 : BoxV, v = r12.val ∧ -- (box.Box).Hull
    CallV Tryz.prog 17 #[r11.val, r12.val] V6 fun v V7 => ∃ r13 : Bool, v = .bool r13 ∧ -- (box.Box).Same
    ((!r13) = true →
    R (.bool false) V7) ∧
    ((!r13) = false →
    CallV Tryz.prog 26 #[r11.val, r8.val] V7 fun v V8 => ∃ r14 : BoxV, v = r14.val ∧ -- (box.Box).Hull
    CallV Tryz.prog 26 #[r5.val, r8.val] V8 fun v V9 => ∃ r15 : BoxV, v = r15.val ∧ -- (box.Box).Hull
    CallV Tryz.prog 26 #[r2.val, r15.val] V9 fun v V10 => ∃ r16 : BoxV, v = r16.val ∧ -- (box.Box).Hull
    CallV Tryz.prog 17 #[r14.val, r16.val] V10 fun v V11 => ∃ r17 : Bool, v = .bool r17 ∧ -- (box.Box).Same
    ((!r17) = true →
    R (.bool false) V11) ∧
    ((!r17) = false →
    CallV Tryz.prog 27 #[r2.val, r11.val] V11 fun v V12 => ∃ r18 : Bool, v = .bool r18 ∧ -- (box.Box).In
    ((!r18) = true →
    R (.bool false) V12) ∧
    ((!r18) = false →
    CallV Tryz.prog 27 #[r5.val, r11.val] V12 fun v V13 => ∃ r19 : Bool, v = .bool r19 ∧ -- (box.Box).In
    ((!r19) = true →
      R (.bool false) V13) ∧
    ((!r19) = false →
      CallV Tryz.prog 28 #[r2.val, r5.val] V13 fun v V14 => ∃ (r20 : BoxV) (r21 : Bool), v = .tuple #[r20.val, .bool r21] ∧ -- (box.Box).Meet
    CallV Tryz.prog 28 #[r5.val, r2.val] V14 fun v V15 => ∃ (r22 : BoxV) (r23 : Bool), v = .tuple #[r22.val, .bool r23] ∧ -- (box.Box).Meet
    ((!(r21 == r23)) = true →
    R (.bool false) V15) ∧
    ((!(r21 == r23)) = false →
    CallV Tryz.prog 17 #[r20.val, r22.val] V15 fun v V16 => ∃ r24 : Bool, v = .bool r24 ∧ -- (box.Box).Same
    ((!r24) = true →
      R (.bool false) V16) ∧
    ((!r24) = false →
      ((!r21) = true →
      R (.bool true) V16) ∧
    ((!r21) = false →
      CallV Tryz.prog 28 #[r20.val, r8.val] V16 fun v V17 => ∃ (r25 : BoxV) (r26 : Bool), v = .tuple #[r25.val, .bool r26] ∧ -- (box.Box).Meet
    CallV Tryz.prog 28 #[r5.val, r8.val] V17 fun v V18 => ∃ (r27 : BoxV) (r28 : Bool), v = .tuple #[r27.val, .bool r28] ∧ -- (box.Box).Meet
    CallV Tryz.prog 28 #[r2.val, r27.val] V18 fun v V19 => ∃ (r29 : BoxV) (r30 : Bool), v = .tuple #[r29.val, .bool r30] ∧ -- (box.Box).Meet
    CallV Tryz.prog 27 #[r20.val, r2.val] V19 fun v V20 => ∃ r31 : Bool, v = .bool r31 ∧ -- (box.Box).In
    (r31 = true →
    CallV Tryz.prog 27 #[r20.val, r5.val] V20 fun v V21 => ∃ r32 : Bool, v = .bool r32 ∧ -- (box.Box).In
    (r32 = true →
    CallV Tryz.prog 26 #[r2.val, r20.val] V21 fun v V22 => ∃ r33 : BoxV, v = r33.val ∧ -- (box.Box).Hull
    CallV Tryz.prog 17 #[r33.val, r2.val] V22 fun v V23 => ∃ r34 : Bool, v = .bool r34 ∧ -- (box.Box).Same
    (r34 = true →
    (r28 = true →
    ((r26 == r30) = true →
    ((!r26) = true →
    R (.bool true) V23) ∧
    ((!r26) = false →
    CallV Tryz.prog 17 #[r25.val, r29.val] V23 fun v V24 => ∃ r35 : Bool, v = .bool r35 ∧ -- (box.Box).Same
    R (.bool r35) V24)) ∧
    ((r26 == r30) = false →
    R (.bool false) V23)) ∧
    (r28 = false →
    ((r26 == false) = true →
    ((!r26) = true →
    R (.bool true) V23) ∧
    ((!r26) = false →
    CallV Tryz.prog 17 #[r25.val, r29.val] V23 fun v V25 => ∃ r36 : Bool, v = .bool r36 ∧ -- (box.Box).Same
    R (.bool r36) V25)) ∧
    ((r26 == false) = false →
    R (.bool false) V23))) ∧
    (r34 = false →
    R (.bool false) V23)) ∧
    (r32 = false →
    R (.bool false) V21)) ∧
    (r31 = false →
    R (.bool false) V20))))))))))))) :
  CallV Tryz.prog 5 #[p0.val, p1.val, p2.val] V R :=
  calls_of_vc (Shp := Shp) hmixed Tryz.func5 (c := Tryz.f5.body.getD .skip) (args := [p0.val, p1.val, p2.val]) (by kernel_rfl)
    (.seq (.reg [⟨3, 3, false⟩, ⟨4, 3, false⟩, ⟨5, 3, false⟩, ⟨6, 9, false⟩]) (.seq (.seq (.reg [⟨27, 10, false⟩, ⟨28, 20, false⟩]) (.cond (.seq (.reg [⟨6, 9, false⟩]) .leaf) .leaf)) (.seq (.reg [⟨3, 4, false⟩, ⟨31, 10, false⟩, ⟨29, 2, false⟩, ⟨32, 0, false⟩, ⟨33, 0, false⟩, ⟨34, 0, false⟩, ⟨7, 3, false⟩, ⟨8, 3, false⟩, ⟨7, 6, false⟩, ⟨8, 6, false⟩, ⟨9, 2, false⟩]) (.seq (.reg [⟨4, 4, false⟩, ⟨37, 10, false⟩, ⟨35, 2, false⟩, ⟨38, 0, false⟩, ⟨39, 0, false⟩, ⟨40, 0, false⟩, ⟨10, 3, false⟩, ⟨11, 3, false⟩, ⟨10, 6, false⟩, ⟨11, 6, false⟩, ⟨12, 2, false⟩]) (.seq (.reg [⟨5, 4, false⟩, ⟨43, 10, false⟩, ⟨41, 2, false⟩, ⟨44, 0, false⟩, ⟨45, 0, false⟩, ⟨46, 0, false⟩, ⟨13, 3, false⟩, ⟨14, 3, false⟩, ⟨13, 6, false⟩, ⟨14, 6, false⟩, ⟨15, 2, false⟩]) (.seq (.seq (.reg [⟨47, 2, false⟩, ⟨48, 20, false⟩, ⟨49, 2, true⟩, ⟨50, 2, false⟩, ⟨51, 20, false⟩, ⟨52, 20, false⟩, ⟨53, 2, true⟩, ⟨54, 2, false⟩, ⟨55, 20, false⟩, ⟨56, 20, false⟩]) (.cond (.seq (.reg [⟨6, 9, false⟩]) .leaf) .leaf)) (.seq (.reg [⟨7, 4, false⟩, ⟨10, 4, false⟩, ⟨59, 10, false⟩, ⟨16, 3, false⟩, ⟨16, 6, false⟩]) (.seq (.seq (.draw [(0, ⟨16, 4, false⟩), (1, ⟨10, 4, false⟩), (2, ⟨7, 4, false⟩), (3, ⟨63, 10, false⟩), (4, ⟨64, 10, false⟩), (5, ⟨65, 20, false⟩), (6, ⟨66, 2, true⟩), (7, ⟨16, 4, false⟩), (8, ⟨13, 4, false⟩), (10, ⟨7, 4, false⟩), (11, ⟨10, 4, false⟩), (12, ⟨13, 4, false⟩), (9, ⟨69, 10, false⟩), (13, ⟨73, 10, false⟩), (14, ⟨74, 10, false⟩), (15, ⟨75, 10, false⟩), (16, ⟨76, 20, false⟩), (17, ⟨77, 20, false⟩), (18, ⟨78, 2, true⟩), (19, ⟨7, 4, false⟩), (20, ⟨16, 4, false⟩), (21, ⟨81, 10, false⟩), (22, ⟨82, 20, false⟩), (23, ⟨83, 20, false⟩), (24, ⟨84, 2, true⟩), (25, ⟨10, 4, false⟩), (26, ⟨16, 4, false⟩), (27, ⟨87, 10, false⟩), (28, ⟨88, 20, false⟩), (29, ⟨89, 20, false⟩)] [0, 0, 0, 6, 15, 31, 63, 127, 127, 511, 127, 127, 127, 7167, 16383, 32767, 65535, 131071, 262143, 524287, 524287, 2097151, 4194303, 8388607, 16777215, 33554431, 33554431, 134217727, 268435455, 536870911]) (.cond (.seq (.reg [⟨6, 9, false⟩]) .leaf) .leaf)) (.seq (.reg [⟨7, 4, false⟩, ⟨10, 4, false⟩, ⟨93, 10, false⟩, ⟨90, 2, false⟩, ⟨94, 0, false⟩, ⟨95, 0, false⟩, ⟨17, 3, false⟩, ⟨17, 6, false⟩, ⟨18, 2, false⟩]) (.seq (.reg [⟨10, 4, false⟩, ⟨7, 4, false⟩, ⟨99, 10, false⟩, ⟨96, 2, false⟩, ⟨100, 0, false⟩, ⟨101, 0, false⟩, ⟨19, 3, false⟩, ⟨19, 6, false⟩, ⟨20, 2, false⟩]) (.seq (.seq (.reg [⟨102, 2, false⟩, ⟨103, 2, false⟩, ⟨104, 0, false⟩, ⟨105, 2, true⟩, ⟨17, 4, false⟩, ⟨19, 4, false⟩, ⟨108, 10, false⟩, ⟨109, 20, false⟩, ⟨110, 20, false⟩]) (.cond (.seq (.reg [⟨6, 9, false⟩]) .leaf) .leaf)) (.seq (.seq (.reg [⟨111, 2, false⟩, ⟨112, 20, false⟩]) (.cond (.seq (.reg [⟨6, 9, false⟩]) .leaf) .leaf)) (.seq (.reg [⟨17, 4, false⟩, ⟨13, 4, false⟩, ⟨116, 10, false⟩, ⟨113, 2, false⟩, ⟨117, 0, false⟩, ⟨118, 0, false⟩, ⟨21, 3, false⟩, ⟨21, 6, false⟩, ⟨22, 2, false⟩]) (.seq (.reg [⟨10, 4, false⟩, ⟨13, 4, false⟩, ⟨122, 10, false⟩, ⟨119, 2, false⟩, ⟨123, 0, false⟩, ⟨124, 0, false⟩, ⟨23, 3, false⟩, ⟨23, 6, false⟩, ⟨24, 2, false⟩]) (.seq (.reg [⟨7, 4, false⟩, ⟨23, 4, false⟩, ⟨128, 10, false⟩, ⟨125, 2, false⟩, ⟨129, 0, false⟩, ⟨130, 0, false⟩, ⟨25, 3, false⟩, ⟨25, 6, false⟩, ⟨26, 2, false⟩]) (.seq (.draw [(0, ⟨17, 4, false⟩), (1, ⟨7, 4, false⟩), (2, ⟨133, 10, false⟩), (3, ⟨134, 2, true⟩), (4, ⟨17, 4, false⟩), (5, ⟨10, 4, false⟩), (6, ⟨137, 10, false⟩), (7, ⟨138, 20, false⟩), (8, ⟨139, 2, true⟩), (9, ⟨7, 4, false⟩), (10, ⟨17, 4, false⟩), (12, ⟨7, 4, false⟩), (11, ⟨142, 10, false⟩), (13, ⟨144, 10, false⟩), (14, ⟨145, 20, false⟩), (15, ⟨146, 2, true⟩), (16, ⟨147, 2, false⟩), (17, ⟨148, 2, false⟩), (18, ⟨149, 2, true⟩), (19, ⟨150, 2, false⟩), (20, ⟨151, 20, false⟩), (21, ⟨152, 0, false⟩), (22, ⟨153, 20, false⟩), (23, ⟨154, 2, true⟩), (24, ⟨155, 2, false⟩), (25, ⟨156, 20, false⟩), (26, ⟨157, 2, true⟩), (27, ⟨21, 4, false⟩), (28, ⟨25, 4, false⟩), (29, ⟨160, 10, false⟩), (30, ⟨161, 20, false⟩), (31, ⟨162, 20, false⟩), (32, ⟨6, 2, false⟩)] [0, 0, 3, 7, 15, 15, 63, 127, 255, 511, 511, 2047, 511, 8191, 16383, 32767, 65535, 65535, 196607, 458751, 983039, 2097151, 4194303, 8388607, 16777215, 33554431, 67108863, 134217727, 134217727, 536870911, 1073741823, 2147483647, 4294967295]) .leaf))))))))))))))))
    (Eq.mpr (by kernel_rfl) h)

end Go.Proofs.YtcapadojlaojkaaGreat
