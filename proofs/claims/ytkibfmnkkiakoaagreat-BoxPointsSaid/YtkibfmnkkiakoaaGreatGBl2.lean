/- Part of the proof; it has the parts GBl2. -/
import Derived.Test.YtkibfmnkkiakoaaGreatGBx4
set_option maxRecDepth 100000
set_option maxHeartbeats 4000000
namespace Go.Proofs.YtkibfmnkkiakoaaGreat
open Go Go.Vc Go.Proofs

/-- (waveport/waveportlaw02.Sides).Both -/
theorem law2_Sides_Both_vc (p0 : SidesV) (V : View) (R : Value → View → Prop) 
  (h :
    CallV Tryz.prog 64 #[p0.re.val] V fun v V1 => ∃ (r1 : SpV) (r2 : SpV) (r3 : Bool), v = .tuple #[r1.val, r2.val, .bool r3] ∧ -- (waveportlaw02.Ends).span
    CallV Tryz.prog 64 #[p0.im.val] V1 fun v V2 => ∃ (r4 : SpV) (r5 : SpV) (r6 : Bool), v = .tuple #[r4.val, r5.val, .bool r6] ∧ -- (waveportlaw02.Ends).span
    CallV Tryz.prog 96 #[r1.val, r4.val] V2 fun v V3 => ∃ r7 : BoxV, v = r7.val ∧ -- box.Pair
    (r3 = true →
    R (.tuple #[r7.val, (BoxV.mk r2 r5).val, .bool r6]) V3) ∧
    (r3 = false →
    R (.tuple #[r7.val, (BoxV.mk r2 r5).val, .bool false]) V3)) :
  CallV Tryz.prog 16 #[p0.val] V R :=
  calls_of_vc (Shp := Shp) hmixed Tryz.func16 (c := Tryz.f16.body.getD .skip) (args := [p0.val]) (by kernel_rfl)
    (.seq (.reg [⟨1, 3, false⟩, ⟨2, 3, false⟩, ⟨3, 3, false⟩, ⟨4, 9, false⟩]) (.seq (.reg [⟨12, 7, false⟩, ⟨1, 4, false⟩, ⟨14, 10, false⟩, ⟨11, 2, false⟩, ⟨15, 0, false⟩, ⟨16, 0, false⟩, ⟨17, 0, false⟩, ⟨5, 3, false⟩, ⟨6, 3, false⟩, ⟨5, 6, false⟩, ⟨6, 6, false⟩, ⟨7, 2, false⟩]) (.seq (.reg [⟨19, 7, false⟩, ⟨1, 4, false⟩, ⟨21, 10, false⟩, ⟨18, 2, false⟩, ⟨22, 0, false⟩, ⟨23, 0, false⟩, ⟨24, 0, false⟩, ⟨8, 3, false⟩, ⟨9, 3, false⟩, ⟨8, 6, false⟩, ⟨9, 6, false⟩, ⟨10, 2, false⟩]) (.seq (.draw [(0, ⟨5, 4, false⟩), (1, ⟨8, 4, false⟩), (3, ⟨6, 4, false⟩), (4, ⟨9, 4, false⟩), (5, ⟨30, 0, false⟩), (6, ⟨31, 2, false⟩), (2, ⟨27, 10, false⟩), (7, ⟨32, 2, true⟩), (8, ⟨33, 2, false⟩), (9, ⟨34, 20, false⟩), (10, ⟨2, 6, false⟩), (11, ⟨3, 6, false⟩), (12, ⟨4, 2, false⟩)] [0, 0, 3, 0, 0, 24, 0, 71, 199, 455, 199, 1279, 4095]) .leaf))))
    (Eq.mpr (by kernel_rfl) h)

/-- waveport/waveportlaw02.BoxPoints -/
theorem law2_BoxPoints_vc (p0 : SidesV) (p1 : RatV) (V : View) (R : Value → View → Prop) 
  (h :
    CallV Tryz.prog 15 #[] V fun v V1 => ∃ r1 : Bool, v = .bool r1 ∧ -- waveportlaw02.awake
    ((!r1) = true →
      R (.bool false) V1) ∧
    ((!r1) = false →
      CallV Tryz.prog 16 #[p0.val] V1 fun v V2 => ∃ (r2 : BoxV) (r3 : BoxV) (r4 : Bool), v = .tuple #[r2.val, r3.val, .bool r4] ∧ -- (waveportlaw02.Sides).Both
    ((!r4) = true →
      R (.bool true) V2) ∧
    ((!r4) = false →
      CallV Tryz.prog 35 #[p1.val] V2 fun v V3 => ∃ r5 : NumV, v = r5.val ∧ -- waveportlaw01.Of
    CallV Tryz.prog 47 #[r2.val, r5.val] V3 fun v V4 => ∃ r6 : BoxV, v = r6.val ∧ -- (box.Box).Of
    CallV Tryz.prog 45 #[r6.val, r2.val] V4 fun v V5 => ∃ (r7 : BoxV) (r8 : Bool), v = .tuple #[r7.val, .bool r8] ∧ -- (box.Box).Meet
    CallV Tryz.prog 57 #[r5.val] V5 fun v V6 => ∃ r9 : CxV, v = .complex .f64 r9.re r9.im ∧ -- (num.Num).Near
    CallV Tryz.prog 56 #[.complex .f64 r9.re r9.im] V6 fun v V7 => ∃ (r10 : NumV) (r11 : Int), v = .tuple #[r10.val, .int .i64 r11] ∧ -- num.Complex
    CallV Tryz.prog 49 #[r6.val, r5.val] V7 fun v V8 => ∃ r12 : Bool, v = .bool r12 ∧ -- (box.Box).Has
    (r12 = true →
    CallV Tryz.prog 58 #[r6.val] V8 fun v V9 => ∃ r13 : CxV, v = .complex .f64 r13.re r13.im ∧ -- (box.Box).Lo
    CallV Tryz.prog 59 #[r6.val] V9 fun v V10 => ∃ r14 : CxV, v = .complex .f64 r14.re r14.im ∧ -- (box.Box).Hi
    CallV Tryz.prog 60 #[r10.val, r5.val] V10 fun v V11 => ∃ r15 : Bool, v = .bool r15 ∧ -- (num.Num).Same
    ((((FloatKind.f64.format.order r13.re r14.re == some .eq) && (FloatKind.f64.format.order r13.im r14.im == some .eq)) == r15) = true →
    CallV Tryz.prog 51 #[r6.val, r2.val] V11 fun v V12 => ∃ r16 : Bool, v = .bool r16 ∧ -- (box.Box).In
    ((!r16) = true →
    CallV Tryz.prog 49 #[r2.val, r5.val] V12 fun v V13 => ∃ r17 : Bool, v = .bool r17 ∧ -- (box.Box).Has
    ((!r17) = true →
    R (.bool true) V13) ∧
    ((!r17) = false →
    R (.bool r8) V13)) ∧
    ((!r16) = false →
    CallV Tryz.prog 49 #[r2.val, r5.val] V12 fun v V14 => ∃ r18 : Bool, v = .bool r18 ∧ -- (box.Box).Has
    (r18 = true →
    CallV Tryz.prog 49 #[r2.val, r5.val] V14 fun v V15 => ∃ r19 : Bool, v = .bool r19 ∧ -- (box.Box).Has
    ((!r19) = true →
    R (.bool true) V15) ∧
    ((!r19) = false →
    R (.bool r8) V15)) ∧
    (r18 = false →
    R (.bool false) V14))) ∧
    ((((FloatKind.f64.format.order r13.re r14.re == some .eq) && (FloatKind.f64.format.order r13.im r14.im == some .eq)) == r15) = false →
    R (.bool false) V11)) ∧
    (r12 = false →
    R (.bool false) V8)))) :
  CallV Tryz.prog 8 #[p0.val, p1.val] V R :=
  calls_of_vc (Shp := Shp) hmixed Tryz.func8 (c := Tryz.f8.body.getD .skip) (args := [p0.val, p1.val]) (by kernel_rfl)
    (.seq (.reg [⟨2, 3, false⟩, ⟨3, 3, false⟩, ⟨4, 9, false⟩]) (.seq (.seq (.reg [⟨14, 10, false⟩, ⟨15, 20, false⟩]) (.cond (.seq (.reg [⟨4, 9, false⟩]) .leaf) .leaf)) (.seq (.reg [⟨2, 4, false⟩, ⟨18, 10, false⟩, ⟨16, 2, false⟩, ⟨19, 0, false⟩, ⟨20, 0, false⟩, ⟨21, 0, false⟩, ⟨5, 3, false⟩, ⟨6, 3, false⟩, ⟨5, 6, false⟩, ⟨6, 6, false⟩, ⟨7, 2, false⟩]) (.seq (.seq (.reg [⟨22, 2, false⟩, ⟨23, 20, false⟩]) (.cond (.seq (.reg [⟨4, 9, false⟩]) .leaf) .leaf)) (.seq (.reg [⟨3, 4, false⟩, ⟨25, 10, false⟩, ⟨8, 3, false⟩, ⟨8, 6, false⟩]) (.seq (.reg [⟨5, 4, false⟩, ⟨8, 4, false⟩, ⟨28, 10, false⟩, ⟨9, 3, false⟩, ⟨9, 6, false⟩]) (.seq (.reg [⟨9, 4, false⟩, ⟨5, 4, false⟩, ⟨32, 10, false⟩, ⟨29, 2, false⟩, ⟨33, 0, false⟩, ⟨34, 0, false⟩, ⟨10, 3, false⟩, ⟨10, 6, false⟩, ⟨11, 2, false⟩]) (.seq (.reg [⟨8, 4, false⟩, ⟨37, 10, false⟩, ⟨38, 10, false⟩, ⟨35, 2, false⟩, ⟨39, 0, false⟩, ⟨40, 0, false⟩, ⟨12, 3, false⟩, ⟨12, 6, false⟩, ⟨13, 2, false⟩]) (.seq (.draw [(0, ⟨9, 4, false⟩), (1, ⟨8, 4, false⟩), (2, ⟨43, 10, false⟩), (3, ⟨44, 2, true⟩), (4, ⟨9, 4, false⟩), (6, ⟨9, 4, false⟩), (9, ⟨12, 4, false⟩), (10, ⟨8, 4, false⟩), (5, ⟨46, 10, false⟩), (7, ⟨48, 10, false⟩), (8, ⟨49, 0, false⟩), (11, ⟨52, 10, false⟩), (12, ⟨53, 0, false⟩), (13, ⟨54, 20, false⟩), (14, ⟨55, 2, true⟩), (15, ⟨9, 4, false⟩), (16, ⟨5, 4, false⟩), (17, ⟨58, 10, false⟩), (18, ⟨59, 20, false⟩), (19, ⟨60, 2, true⟩), (20, ⟨5, 4, false⟩), (21, ⟨8, 4, false⟩), (22, ⟨63, 10, false⟩), (23, ⟨64, 20, false⟩), (24, ⟨65, 20, false⟩), (25, ⟨66, 2, true⟩), (26, ⟨5, 4, false⟩), (27, ⟨8, 4, false⟩), (28, ⟨69, 10, false⟩), (29, ⟨70, 20, false⟩), (30, ⟨71, 2, true⟩), (31, ⟨72, 2, false⟩), (32, ⟨73, 20, false⟩), (33, ⟨74, 20, false⟩), (34, ⟨4, 2, false⟩)] [0, 0, 3, 7, 15, 31, 15, 127, 255, 15, 15, 1791, 4095, 8191, 16383, 32767, 32767, 131071, 262143, 524287, 1048575, 1048575, 4194303, 8388607, 16777215, 33554431, 67108863, 67108863, 268435455, 536870911, 1073741823, 2147483647, 4294967295, 8589934591, 17179869183]) .leaf)))))))))
    (Eq.mpr (by kernel_rfl) h)

end Go.Proofs.YtkibfmnkkiakoaaGreat
