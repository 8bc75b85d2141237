/- Made by a program of this repo (gen.py): what each function asks of the functions that it calls. -/
import Derived.Test.YtnbjnokgmeamdaaP
set_option maxRecDepth 100000
set_option maxHeartbeats 4000000
namespace Go.Proofs.Ytnbjnokgmeamdaa
open Go Go.Vc Go.Proofs

/-- waveport/waveportlaw07.TransformBack -/
theorem waveportlaw07_TransformBack_vc (p0 : Sl) (p1 : Int) (V : View) (R : Value → View → Prop) 
  (h :
    CallV Try.prog 26 #[p0.v, .int .u8 p1] V fun v V1 => ∃ (r1 : Sl) (r2 : Sl), v = .tuple #[r1.v, r2.v] ∧ -- waveportlaw07.exact
    CallV Try.prog 27 #[r1.v, r2.v] V1 fun v V2 => ∃ (r3 : Sl) (r4 : Int), v = .tuple #[r3.v, .int .i64 r4] ∧ -- transform.Forward[num.Num]
    CallV Try.prog 28 #[r1.v, r2.v] V2 fun v V3 => ∃ (r5 : Sl) (r6 : Int), v = .tuple #[r5.v, .int .i64 r6] ∧ -- transform.Fast[num.Num]
    CallV Try.prog 23 #[r3.v, .int .i64 r4, r5.v, .int .i64 r6] V3 fun v V4 => ∃ r7 : Bool, v = .bool r7 ∧ -- waveportlaw07.are
    ((!r7) = true →
      R (.bool false) V4) ∧
    ((!r7) = false →
      CallV Try.prog 29 #[r3.v, r2.v] V4 fun v V5 => ∃ (r8 : Sl) (r9 : Int), v = .tuple #[r8.v, .int .i64 r9] ∧ -- transform.Back[num.Num]
    CallV Try.prog 30 #[r5.v, r2.v] V5 fun v V6 => ∃ (r10 : Sl) (r11 : Int), v = .tuple #[r10.v, .int .i64 r11] ∧ -- transform.FastBack[num.Num]
    CallV Try.prog 23 #[r8.v, .int .i64 r9, r1.v, .int .i64 0] V6 fun v V7 => ∃ r12 : Bool, v = .bool r12 ∧ -- waveportlaw07.are
    ((!r12) = true →
    (true = true →
      R (.bool false) V7) ∧
    (true = false →
      CallV Try.prog 29 #[r1.v, r2.v] V7 fun v V8 => ∃ (r13 : Sl) (r14 : Int), v = .tuple #[r13.v, .int .i64 r14] ∧ -- transform.Back[num.Num]
    CallV Try.prog 30 #[r1.v, r2.v] V8 fun v V9 => ∃ (r15 : Sl) (r16 : Int), v = .tuple #[r15.v, .int .i64 r16] ∧ -- transform.FastBack[num.Num]
    CallV Try.prog 23 #[r13.v, .int .i64 r14, r15.v, .int .i64 r16] V9 fun v V10 => ∃ r17 : Bool, v = .bool r17 ∧ -- waveportlaw07.are
    ((!r17) = true →
      R (.bool false) V10) ∧
    ((!r17) = false →
      CallV Try.prog 27 #[r13.v, r2.v] V10 fun v V11 => ∃ (r18 : Sl) (r19 : Int), v = .tuple #[r18.v, .int .i64 r19] ∧ -- transform.Forward[num.Num]
    CallV Try.prog 23 #[r18.v, .int .i64 r19, r1.v, .int .i64 0] V11 fun v V12 => ∃ r20 : Bool, v = .bool r20 ∧ -- waveportlaw07.are
    (r20 = true →
    CallV Try.prog 16 #[] V12 fun v V13 => ∃ r21 : Bool, v = .bool r21 ∧ -- waveportlaw07.awake
    R (.bool r21) V13) ∧
    (r20 = false →
    R (.bool false) V12)))) ∧
    ((!r12) = false →
    CallV Try.prog 23 #[r10.v, .int .i64 r11, r1.v, .int .i64 0] V7 fun v V14 => ∃ r22 : Bool, v = .bool r22 ∧ -- waveportlaw07.are
    ((!r22) = true →
      R (.bool false) V14) ∧
    ((!r22) = false →
      CallV Try.prog 29 #[r1.v, r2.v] V14 fun v V15 => ∃ (r23 : Sl) (r24 : Int), v = .tuple #[r23.v, .int .i64 r24] ∧ -- transform.Back[num.Num]
    CallV Try.prog 30 #[r1.v, r2.v] V15 fun v V16 => ∃ (r25 : Sl) (r26 : Int), v = .tuple #[r25.v, .int .i64 r26] ∧ -- transform.FastBack[num.Num]
    CallV Try.prog 23 #[r23.v, .int .i64 r24, r25.v, .int .i64 r26] V16 fun v V17 => ∃ r27 : Bool, v = .bool r27 ∧ -- waveportlaw07.are
    ((!r27) = true →
      R (.bool false) V17) ∧
    ((!r27) = false →
      CallV Try.prog 27 #[r23.v, r2.v] V17 fun v V18 => ∃ (r28 : Sl) (r29 : Int), v = .tuple #[r28.v, .int .i64 r29] ∧ -- transform.Forward[num.Num]
    CallV Try.prog 23 #[r28.v, .int .i64 r29, r1.v, .int .i64 0] V18 fun v V19 => ∃ r30 : Bool, v = .bool r30 ∧ -- waveportlaw07.are
    (r30 = true →
    CallV Try.prog 16 #[] V19 fun v V20 => ∃ r31 : Bool, v = .bool r31 ∧ -- waveportlaw07.awake
    R (.bool r31) V20) ∧
    (r30 = false →
    R (.bool false) V19)))))) :
  CallV Try.prog 6 #[p0.v, .int .u8 p1] V R :=
  calls_of_vc (Shp := Shp) hmixed Try.func6 (c := Try.f6.body.getD .skip) (args := [p0.v, .int .u8 p1]) (by kernel_rfl)
    (.seq (.reg [⟨4, 2, false⟩]) (.seq (.reg [⟨20, 2, false⟩, ⟨21, 2, false⟩, ⟨22, 10, false⟩, ⟨19, 2, false⟩, ⟨23, 0, false⟩, ⟨24, 0, false⟩, ⟨5, 2, false⟩, ⟨6, 2, false⟩]) (.seq (.reg [⟨26, 2, false⟩, ⟨27, 2, false⟩, ⟨28, 10, false⟩, ⟨25, 2, false⟩, ⟨29, 0, false⟩, ⟨30, 0, false⟩, ⟨7, 2, false⟩, ⟨8, 2, false⟩]) (.seq (.reg [⟨32, 2, false⟩, ⟨33, 2, false⟩, ⟨34, 10, false⟩, ⟨31, 2, false⟩, ⟨35, 0, false⟩, ⟨36, 0, false⟩, ⟨9, 2, false⟩, ⟨10, 2, false⟩]) (.seq (.seq (.reg [⟨37, 2, false⟩, ⟨38, 2, false⟩, ⟨39, 2, false⟩, ⟨40, 2, false⟩, ⟨41, 10, false⟩, ⟨42, 0, false⟩]) (.cond (.seq (.reg [⟨4, 2, false⟩]) .leaf) .leaf)) (.seq (.reg [⟨44, 2, false⟩, ⟨45, 2, false⟩, ⟨46, 10, false⟩, ⟨43, 2, false⟩, ⟨47, 0, false⟩, ⟨48, 0, false⟩, ⟨11, 2, false⟩, ⟨12, 2, false⟩]) (.seq (.reg [⟨50, 2, false⟩, ⟨51, 2, false⟩, ⟨52, 10, false⟩, ⟨49, 2, false⟩, ⟨53, 0, false⟩, ⟨54, 0, false⟩, ⟨13, 2, false⟩, ⟨14, 2, false⟩]) (.seq (.seq (.reg [⟨55, 2, false⟩, ⟨56, 2, false⟩, ⟨57, 2, false⟩, ⟨58, 10, false⟩, ⟨59, 0, false⟩, ⟨60, 2, true⟩, ⟨61, 2, false⟩, ⟨62, 2, false⟩, ⟨63, 2, false⟩, ⟨64, 10, false⟩, ⟨65, 0, false⟩, ⟨66, 2, false⟩]) (.cond (.seq (.reg [⟨4, 2, false⟩]) .leaf) .leaf)) (.seq (.reg [⟨68, 2, false⟩, ⟨69, 2, false⟩, ⟨70, 10, false⟩, ⟨67, 2, false⟩, ⟨71, 0, false⟩, ⟨72, 0, false⟩, ⟨15, 2, false⟩, ⟨16, 2, false⟩]) (.seq (.reg [⟨74, 2, false⟩, ⟨75, 2, false⟩, ⟨76, 10, false⟩, ⟨73, 2, false⟩, ⟨77, 0, false⟩, ⟨78, 0, false⟩, ⟨17, 2, false⟩, ⟨18, 2, false⟩]) (.seq (.seq (.reg [⟨79, 2, false⟩, ⟨80, 2, false⟩, ⟨81, 2, false⟩, ⟨82, 2, false⟩, ⟨83, 10, false⟩, ⟨84, 0, false⟩]) (.cond (.seq (.reg [⟨4, 2, false⟩]) .leaf) .leaf)) (.seq (.reg [⟨86, 2, false⟩, ⟨87, 2, false⟩, ⟨88, 10, false⟩, ⟨85, 2, false⟩, ⟨89, 0, false⟩, ⟨90, 0, false⟩, ⟨11, 2, false⟩, ⟨12, 2, false⟩]) (.seq (.reg [⟨91, 2, false⟩, ⟨92, 2, false⟩, ⟨93, 2, false⟩, ⟨94, 10, false⟩, ⟨95, 2, true⟩, ⟨96, 10, false⟩, ⟨97, 2, false⟩, ⟨4, 2, false⟩]) .leaf)))))))))))))
    (Eq.mpr (by kernel_rfl) h)

end Go.Proofs.Ytnbjnokgmeamdaa
