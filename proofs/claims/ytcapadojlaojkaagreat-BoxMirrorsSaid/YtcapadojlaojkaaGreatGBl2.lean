/- Part of the proof; it has the parts GBl2. -/
import Derived.Test.YtcapadojlaojkaaGreatGBx4
set_option maxRecDepth 100000
set_option maxHeartbeats 4000000
namespace Go.Proofs.YtcapadojlaojkaaGreat
open Go Go.Vc Go.Proofs

/-- (waveport/waveportlaw02.Sides).Both -/
theorem law2_Sides_Both_vc (p0 : SidesV) (V : View) (R : Value → View → Prop) 
  (h :
    CallV Tryz.prog 75 #[p0.re.val] V fun v V1 => ∃ (r1 : SpV) (r2 : SpV) (r3 : Bool), v = .tuple #[r1.val, r2.val, .bool r3] ∧ -- (waveportlaw02.Ends).span
    CallV Tryz.prog 75 #[p0.im.val] V1 fun v V2 => ∃ (r4 : SpV) (r5 : SpV) (r6 : Bool), v = .tuple #[r4.val, r5.val, .bool r6] ∧ -- (waveportlaw02.Ends).span
    CallV Tryz.prog 18 #[r1.val, r4.val] V2 fun v V3 => ∃ r7 : BoxV, v = r7.val ∧ -- box.Pair
    (r3 = true →
    R (.tuple #[r7.val, (BoxV.mk r2 r5).val, .bool r6]) V3) ∧
    (r3 = false →
    R (.tuple #[r7.val, (BoxV.mk r2 r5).val, .bool false]) V3)) :
  CallV Tryz.prog 19 #[p0.val] V R :=
  calls_of_vc (Shp := Shp) hmixed Tryz.func19 (c := Tryz.f19.body.getD .skip) (args := [p0.val]) (by kernel_rfl)
    (.seq (.reg [⟨1, 3, false⟩, ⟨2, 3, false⟩, ⟨3, 3, false⟩, ⟨4, 9, false⟩]) (.seq (.reg [⟨12, 7, false⟩, ⟨1, 4, false⟩, ⟨14, 10, false⟩, ⟨11, 2, false⟩, ⟨15, 0, false⟩, ⟨16, 0, false⟩, ⟨17, 0, false⟩, ⟨5, 3, false⟩, ⟨6, 3, false⟩, ⟨5, 6, false⟩, ⟨6, 6, false⟩, ⟨7, 2, false⟩]) (.seq (.reg [⟨19, 7, false⟩, ⟨1, 4, false⟩, ⟨21, 10, false⟩, ⟨18, 2, false⟩, ⟨22, 0, false⟩, ⟨23, 0, false⟩, ⟨24, 0, false⟩, ⟨8, 3, false⟩, ⟨9, 3, false⟩, ⟨8, 6, false⟩, ⟨9, 6, false⟩, ⟨10, 2, false⟩]) (.seq (.draw [(0, ⟨5, 4, false⟩), (1, ⟨8, 4, false⟩), (3, ⟨6, 4, false⟩), (4, ⟨9, 4, false⟩), (5, ⟨30, 0, false⟩), (6, ⟨31, 2, false⟩), (2, ⟨27, 10, false⟩), (7, ⟨32, 2, true⟩), (8, ⟨33, 2, false⟩), (9, ⟨34, 20, false⟩), (10, ⟨2, 6, false⟩), (11, ⟨3, 6, false⟩), (12, ⟨4, 2, false⟩)] [0, 0, 3, 0, 0, 24, 0, 71, 199, 455, 199, 1279, 4095]) .leaf))))
    (Eq.mpr (by kernel_rfl) h)

/-- waveport/waveportlaw02.BoxMirrors -/
theorem law2_BoxMirrors_vc (p0 : SidesV) (p1 : SidesV) (V : View) (R : Value → View → Prop) 
  (h :
    CallV Tryz.prog 10 #[] V fun v V1 => ∃ r1 : Bool, v = .bool r1 ∧ -- waveportlaw02.awake
    ((!r1) = true →
      R (.bool false) V1) ∧
    ((!r1) = false →
      CallV Tryz.prog 19 #[p0.val] V1 fun v V2 => ∃ (r2 : BoxV) (r3 : BoxV) (r4 : Bool), v = .tuple #[r2.val, r3.val, .bool r4] ∧ -- (waveportlaw02.Sides).Both
    CallV Tryz.prog 19 #[p1.val] V2 fun v V3 => ∃ (r5 : BoxV) (r6 : BoxV) (r7 : Bool), v = .tuple #[r5.val, r6.val, .bool r7] ∧ -- (waveportlaw02.Sides).Both
    ((!r4) = true →
    R (.bool true) V3) ∧
    ((!r4) = false →
    ((!r7) = true →
      R (.bool true) V3) ∧
    ((!r7) = false →
      CallV Tryz.prog 20 #[r2.val] V3 fun v V4 => ∃ (r8 : BoxV) (r9 : Int), v = .tuple #[r8.val, .int .i64 r9] ∧ -- (box.Box).Inv
    CallV Tryz.prog 21 #[r2.val] V4 fun v V5 => ∃ r10 : BoxV, v = r10.val ∧ -- (box.Box).Conj
    CallV Tryz.prog 20 #[r10.val] V5 fun v V6 => ∃ (r11 : BoxV) (r12 : Int), v = .tuple #[r11.val, .int .i64 r12] ∧ -- (box.Box).Inv
    CallV Tryz.prog 22 #[r2.val, r5.val] V6 fun v V7 => ∃ r13 : BoxV, v = r13.val ∧ -- (box.Box).Add
    CallV Tryz.prog 22 #[r5.val, r2.val] V7 fun v V8 => ∃ r14 : BoxV, v = r14.val ∧ -- (box.Box).Add
    CallV Tryz.prog 17 #[r13.val, r14.val] V8 fun v V9 => ∃ r15 : Bool, v = .bool r15 ∧ -- (box.Box).Same
    (r15 = true →
    CallV Tryz.prog 23 #[r2.val, r5.val] V9 fun v V10 => ∃ r16 : BoxV, v = r16.val ∧ -- (box.Box).Mul
    CallV Tryz.prog 23 #[r5.val, r2.val] V10 fun v V11 => ∃ r17 : BoxV, v = r17.val ∧ -- (box.Box).Mul
    CallV Tryz.prog 17 #[r16.val, r17.val] V11 fun v V12 => ∃ r18 : Bool, v = .bool r18 ∧ -- (box.Box).Same
    (r18 = true →
    CallV Tryz.prog 24 #[r2.val] V12 fun v V13 => ∃ r19 : BoxV, v = r19.val ∧ -- (box.Box).Neg
    CallV Tryz.prog 24 #[r19.val] V13 fun v V14 => ∃ r20 : BoxV, v = r20.val ∧ -- (box.Box).Neg
    CallV Tryz.prog 17 #[r20.val, r2.val] V14 fun v V15 => ∃ r21 : Bool, v = .bool r21 ∧ -- (box.Box).Same
    (r21 = true →
    CallV Tryz.prog 21 #[r2.val] V15 fun v V16 => ∃ r22 : BoxV, v = r22.val ∧ -- (box.Box).Conj
    CallV Tryz.prog 21 #[r22.val] V16 fun v V17 => ∃ r23 : BoxV, v = r23.val ∧ -- (box.Box).Conj
    CallV Tryz.prog 17 #[r23.val, r2.val] V17 fun v V18 => ∃ r24 : Bool, v = .bool r24 ∧ -- (box.Box).Same
    (r24 = true →
    CallV Tryz.prog 24 #[r2.val] V18 fun v V19 => ∃ r25 : BoxV, v = r25.val ∧ -- (box.Box).Neg
    CallV Tryz.prog 23 #[r25.val, r5.val] V19 fun v V20 => ∃ r26 : BoxV, v = r26.val ∧ -- (box.Box).Mul
    CallV Tryz.prog 23 #[r2.val, r5.val] V20 fun v V21 => ∃ r27 : BoxV, v = r27.val ∧ -- (box.Box).Mul
    CallV Tryz.prog 24 #[r27.val] V21 fun v V22 => ∃ r28 : BoxV, v = r28.val ∧ -- (box.Box).Neg
    CallV Tryz.prog 17 #[r26.val, r28.val] V22 fun v V23 => ∃ r29 : Bool, v = .bool r29 ∧ -- (box.Box).Same
    (r29 = true →
    CallV Tryz.prog 21 #[r2.val] V23 fun v V24 => ∃ r30 : BoxV, v = r30.val ∧ -- (box.Box).Conj
    CallV Tryz.prog 21 #[r5.val] V24 fun v V25 => ∃ r31 : BoxV, v = r31.val ∧ -- (box.Box).Conj
    CallV Tryz.prog 23 #[r30.val, r31.val] V25 fun v V26 => ∃ r32 : BoxV, v = r32.val ∧ -- (box.Box).Mul
    CallV Tryz.prog 23 #[r2.val, r5.val] V26 fun v V27 => ∃ r33 : BoxV, v = r33.val ∧ -- (box.Box).Mul
    CallV Tryz.prog 21 #[r33.val] V27 fun v V28 => ∃ r34 : BoxV, v = r34.val ∧ -- (box.Box).Conj
    CallV Tryz.prog 17 #[r32.val, r34.val] V28 fun v V29 => ∃ r35 : Bool, v = .bool r35 ∧ -- (box.Box).Same
    (r35 = true →
    CallV Tryz.prog 25 #[r2.val, r5.val] V29 fun v V30 => ∃ r36 : BoxV, v = r36.val ∧ -- (box.Box).Sub
    CallV Tryz.prog 24 #[r5.val] V30 fun v V31 => ∃ r37 : BoxV, v = r37.val ∧ -- (box.Box).Neg
    CallV Tryz.prog 22 #[r2.val, r37.val] V31 fun v V32 => ∃ r38 : BoxV, v = r38.val ∧ -- (box.Box).Add
    CallV Tryz.prog 17 #[r36.val, r38.val] V32 fun v V33 => ∃ r39 : Bool, v = .bool r39 ∧ -- (box.Box).Same
    (r39 = true →
    (((r9 : Int) == r12) = true →
    CallV Tryz.prog 21 #[r8.val] V33 fun v V34 => ∃ r40 : BoxV, v = r40.val ∧ -- (box.Box).Conj
    CallV Tryz.prog 17 #[r11.val, r40.val] V34 fun v V35 => ∃ r41 : Bool, v = .bool r41 ∧ -- (box.Box).Same
    R (.bool r41) V35) ∧
    (((r9 : Int) == r12) = false →
    R (.bool false) V33)) ∧
    (r39 = false →
    R (.bool false) V33)) ∧
    (r35 = false →
    R (.bool false) V29)) ∧
    (r29 = false →
    R (.bool false) V23)) ∧
    (r24 = false →
    R (.bool false) V18)) ∧
    (r21 = false →
    R (.bool false) V15)) ∧
    (r18 = false →
    R (.bool false) V12)) ∧
    (r15 = false →
    R (.bool false) V9))))) :
  CallV Tryz.prog 4 #[p0.val, p1.val] V R :=
  calls_of_vc (Shp := Shp) hmixed Tryz.func4 (c := Tryz.f4.body.getD .skip) (args := [p0.val, p1.val]) (by kernel_rfl)
    (.seq (.reg [⟨2, 3, false⟩, ⟨3, 3, false⟩, ⟨4, 9, false⟩]) (.seq (.seq (.reg [⟨15, 10, false⟩, ⟨16, 20, false⟩]) (.cond (.seq (.reg [⟨4, 9, false⟩]) .leaf) .leaf)) (.seq (.reg [⟨2, 4, false⟩, ⟨19, 10, false⟩, ⟨17, 2, false⟩, ⟨20, 0, false⟩, ⟨21, 0, false⟩, ⟨22, 0, false⟩, ⟨5, 3, false⟩, ⟨6, 3, false⟩, ⟨5, 6, false⟩, ⟨6, 6, false⟩, ⟨7, 2, false⟩]) (.seq (.reg [⟨3, 4, false⟩, ⟨25, 10, false⟩, ⟨23, 2, false⟩, ⟨26, 0, false⟩, ⟨27, 0, false⟩, ⟨28, 0, false⟩, ⟨8, 3, false⟩, ⟨9, 3, false⟩, ⟨8, 6, false⟩, ⟨9, 6, false⟩, ⟨10, 2, false⟩]) (.seq (.seq (.reg [⟨29, 2, false⟩, ⟨30, 20, false⟩, ⟨31, 2, true⟩, ⟨32, 2, false⟩, ⟨33, 20, false⟩, ⟨34, 20, false⟩]) (.cond (.seq (.reg [⟨4, 9, false⟩]) .leaf) .leaf)) (.seq (.reg [⟨5, 4, false⟩, ⟨37, 10, false⟩, ⟨35, 2, false⟩, ⟨38, 0, false⟩, ⟨39, 0, false⟩, ⟨11, 3, false⟩, ⟨11, 6, false⟩, ⟨12, 2, false⟩]) (.seq (.reg [⟨5, 4, false⟩, ⟨42, 10, false⟩, ⟨43, 10, false⟩, ⟨40, 2, false⟩, ⟨44, 0, false⟩, ⟨45, 0, false⟩, ⟨13, 3, false⟩, ⟨13, 6, false⟩, ⟨14, 2, false⟩]) (.seq (.draw [(0, ⟨5, 4, false⟩), (1, ⟨8, 4, false⟩), (3, ⟨8, 4, false⟩), (4, ⟨5, 4, false⟩), (2, ⟨48, 10, false⟩), (5, ⟨51, 10, false⟩), (6, ⟨52, 10, false⟩), (7, ⟨53, 2, true⟩), (8, ⟨5, 4, false⟩), (9, ⟨8, 4, false⟩), (11, ⟨8, 4, false⟩), (12, ⟨5, 4, false⟩), (10, ⟨56, 10, false⟩), (13, ⟨59, 10, false⟩), (14, ⟨60, 10, false⟩), (15, ⟨61, 20, false⟩), (16, ⟨62, 2, true⟩), (17, ⟨5, 4, false⟩), (20, ⟨5, 4, false⟩), (18, ⟨64, 10, false⟩), (19, ⟨65, 10, false⟩), (21, ⟨67, 10, false⟩), (22, ⟨68, 20, false⟩), (23, ⟨69, 2, true⟩), (24, ⟨5, 4, false⟩), (27, ⟨5, 4, false⟩), (25, ⟨71, 10, false⟩), (26, ⟨72, 10, false⟩), (28, ⟨74, 10, false⟩), (29, ⟨75, 20, false⟩), (30, ⟨76, 2, true⟩), (31, ⟨5, 4, false⟩), (33, ⟨8, 4, false⟩), (35, ⟨5, 4, false⟩), (36, ⟨8, 4, false⟩), (32, ⟨78, 10, false⟩), (34, ⟨80, 10, false⟩), (37, ⟨83, 10, false⟩), (38, ⟨84, 10, false⟩), (39, ⟨85, 10, false⟩), (40, ⟨86, 20, false⟩), (41, ⟨87, 2, true⟩), (42, ⟨5, 4, false⟩), (44, ⟨8, 4, false⟩), (47, ⟨5, 4, false⟩), (48, ⟨8, 4, false⟩), (43, ⟨89, 10, false⟩), (45, ⟨91, 10, false⟩), (46, ⟨92, 10, false⟩), (49, ⟨95, 10, false⟩), (50, ⟨96, 10, false⟩), (51, ⟨97, 10, false⟩), (52, ⟨98, 20, false⟩), (53, ⟨99, 2, true⟩), (54, ⟨5, 4, false⟩), (55, ⟨8, 4, false⟩), (57, ⟨5, 4, false⟩), (58, ⟨8, 4, false⟩), (56, ⟨102, 10, false⟩), (59, ⟨105, 10, false⟩), (60, ⟨106, 10, false⟩), (61, ⟨107, 10, false⟩), (62, ⟨108, 20, false⟩), (63, ⟨109, 2, true⟩), (64, ⟨110, 2, false⟩), (65, ⟨111, 2, false⟩), (66, ⟨112, 0, false⟩), (67, ⟨113, 20, false⟩), (68, ⟨114, 2, true⟩), (69, ⟨13, 4, false⟩), (70, ⟨11, 4, false⟩), (71, ⟨117, 10, false⟩), (72, ⟨118, 10, false⟩), (73, ⟨119, 20, false⟩), (74, ⟨4, 2, false⟩)] [0, 0, 3, 0, 0, 31, 63, 127, 255, 255, 1023, 255, 255, 8191, 16383, 32767, 65535, 131071, 262143, 524287, 131071, 2097151, 4194303, 8388607, 16777215, 33554431, 67108863, 16777215, 268435455, 536870911, 1073741823, 2147483647, 4294967295, 2147483647, 17179869183, 2147483647, 2147483647, 137438953471, 274877906943, 549755813887, 1099511627775, 2199023255551, 4398046511103, 8796093022207, 4398046511103, 35184372088831, 70368744177663, 4398046511103, 4398046511103, 562949953421311, 1125899906842623, 2251799813685247, 4503599627370495, 9007199254740991, 18014398509481983, 18014398509481983, 72057594037927935, 18014398509481983, 18014398509481983, 432345564227567615, 1152921504606846975, 2305843009213693951, 4611686018427387903, 9223372036854775807, 18446744073709551615, 18446744073709551615, 73786976294838206463, 147573952589676412927, 295147905179352825855, 590295810358705651711, 590295810358705651711, 1770887431076116955135, 4722366482869645213695, 9444732965739290427391, 18889465931478580854783]) .leaf))))))))
    (Eq.mpr (by kernel_rfl) h)

end Go.Proofs.YtcapadojlaojkaaGreat
