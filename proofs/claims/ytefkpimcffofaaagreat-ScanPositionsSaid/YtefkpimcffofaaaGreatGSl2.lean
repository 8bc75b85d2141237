/- Part of the proof; it has the parts GSl2. -/
import Derived.Test.YtefkpimcffofaaaGreatGSl1
set_option maxRecDepth 100000
set_option maxHeartbeats 4000000
namespace Go.Proofs.YtefkpimcffofaaaGreat
open Go Go.Vc Go.Proofs
open Go.IntKind (i8 i16 i32 i64 u8 u16 u32 u64)

theorem waveportlaw08_ScanPositions_vc (p0 : LFrameV) (p1 : RatV) (p2 : RatV) (p3 : Arr3) (V : View) (R : Value → View → Prop) 
 (h :
 CallV Tryz.prog 76 #[p0.val] V fun v V1 => ∃ (r1 : FrameV) (r2 : FrameV), v = .tuple #[r1.val, r2.val] ∧
 CallV Tryz.prog 85 #[p3.val] V1 fun v V2 => ∃ (r3 : SpotV) (r4 : SpotV), v = .tuple #[r3.val, r4.val] ∧
 CallV Tryz.prog 15 #[p1.val] V2 fun v V3 => ∃ r5 : NumV, v = r5.val ∧
 CallV Tryz.prog 15 #[p2.val] V3 fun v V4 => ∃ r6 : NumV, v = r6.val ∧
 CallV Tryz.prog 81 #[r1.val, r5.val, r6.val] V4 fun v V5 => ∃ (r7 : SpotV) (r8 : Int), v = .tuple #[r7.val, .int .i64 r8] ∧
 (((r8 : Int) != 0) = true →
 (((r8 : Int) == 1) = true →
 CallV Tryz.prog 64 #[] V5 fun v V6 => ∃ r9 : Bool, v = .bool r9 ∧
 R (.bool r9) V6) ∧
 (((r8 : Int) == 1) = false →
 R (.bool false) V5)) ∧
 (((r8 : Int) != 0) = false →
 CallV Tryz.prog 92 #[r1.val, r7.val] V5 fun v V7 => ∃ (r10 : NumV) (r11 : NumV) (r12 : NumV) (r13 : Int), v = .tuple #[r10.val, r11.val, r12.val, .int .i64 r13] ∧
 (((r13 : Int) != 0) = true →
 (((r13 : Int) == 6) = true →
 CallV Tryz.prog 64 #[] V7 fun v V8 => ∃ r14 : Bool, v = .bool r14 ∧
 R (.bool r14) V8) ∧
 (((r13 : Int) == 6) = false →
 R (.bool false) V7)) ∧
 (((r13 : Int) != 0) = false →
 CallV Tryz.prog 15 #[p1.val] V7 fun v V9 => ∃ r15 : NumV, v = r15.val ∧
 CallV Tryz.prog 94 #[r10.val, r15.val] V9 fun v V10 => ∃ r16 : Bool, v = .bool r16 ∧
 ((!r16) = true →
 R (.bool false) V10) ∧
 ((!r16) = false →
 CallV Tryz.prog 15 #[p2.val] V10 fun v V11 => ∃ r17 : NumV, v = r17.val ∧
 CallV Tryz.prog 94 #[r11.val, r17.val] V11 fun v V12 => ∃ r18 : Bool, v = .bool r18 ∧
 ((!r18) = true →
 R (.bool false) V12) ∧
 ((!r18) = false →
 CallV Tryz.prog 83 #[r12.val] V12 fun v V13 => ∃ r19 : Bool, v = .bool r19 ∧
 (r19 = true →
 R (.bool false) V13) ∧
 (r19 = false →
 CallV Tryz.prog 88 #[r1.val] V13 fun v V14 => ∃ (r20 : FrameV) (r21 : Int), v = .tuple #[r20.val, .int .i64 r21] ∧
 CallV Tryz.prog 86 #[r20.val] V14 fun v V15 => ∃ (r22 : NumV) (r23 : Int), v = .tuple #[r22.val, .int .i64 r23] ∧
 (((r21 : Int) != 0) = true →
 R (.bool false) V15) ∧
 (((r21 : Int) != 0) = false →
 (((r23 : Int) != 0) = true →
 R (.bool false) V15) ∧
 (((r23 : Int) != 0) = false →
 CallV Tryz.prog 83 #[r22.val] V15 fun v V16 => ∃ r24 : Bool, v = .bool r24 ∧
 (r24 = true →
 R (.bool false) V16) ∧
 (r24 = false →
 CallV Tryz.prog 84 #[r20.u.val, r1.u.val] V16 fun v V17 => ∃ r25 : Bool, v = .bool r25 ∧
 ((!r25) = true →
 R (.bool false) V17) ∧
 ((!r25) = false →
 CallV Tryz.prog 84 #[r20.o.val, r1.o.val] V17 fun v V18 => ∃ r26 : Bool, v = .bool r26 ∧
 ((!r26) = true →
 R (.bool false) V18) ∧
 ((!r26) = false →
 CallV Tryz.prog 92 #[r20.val, r7.val] V18 fun v V19 => ∃ (r27 : NumV) (r28 : NumV) (r29 : NumV) (r30 : Int), v = .tuple #[r27.val, r28.val, r29.val, .int .i64 r30] ∧
 (((r30 : Int) != 0) = true →
 R (.bool false) V19) ∧
 (((r30 : Int) != 0) = false →
 CallV Tryz.prog 83 #[r29.val] V19 fun v V20 => ∃ r31 : Bool, v = .bool r31 ∧
 (r31 = true →
 R (.bool false) V20) ∧
 (r31 = false →
 CallV Tryz.prog 92 #[r1.val, r3.val] V20 fun v V21 => ∃ (r32 : NumV) (r33 : NumV) (r34 : NumV) (r35 : Int), v = .tuple #[r32.val, r33.val, r34.val, .int .i64 r35] ∧
 (((r35 : Int) != 0) = true →
 (((r35 : Int) == 1) = true →
 CallV Tryz.prog 64 #[] V21 fun v V22 => ∃ r36 : Bool, v = .bool r36 ∧
 R (.bool r36) V22) ∧
 (((r35 : Int) == 1) = false →
 R (.bool false) V21)) ∧
 (((r35 : Int) != 0) = false →
 CallV Tryz.prog 95 #[r7.val, r3.val] V21 fun v V23 => ∃ r37 : NumV, v = r37.val ∧
 CallV Tryz.prog 80 #[r37.val, r34.val] V23 fun v V24 => ∃ r38 : Int, v = .int .i64 r38 ∧
 ((decide ((r38 : Int) ≥ 0)) = true →
 CallV Tryz.prog 64 #[] V24 fun v V25 => ∃ r39 : Bool, v = .bool r39 ∧
 R (.bool r39) V25) ∧
 ((decide ((r38 : Int) ≥ 0)) = false →
 R (.bool false) V24))))))))))))))) :
 CallV Tryz.prog 10 #[p0.val, p1.val, p2.val, p3.val] V R :=
 calls_of_vc (Shp := Shp) hmixed Tryz.func10 (c := Tryz.f10.body.getD .skip) (args := [p0.val, p1.val, p2.val, p3.val]) (by kernel_rfl)
 (.seq (.reg [A 4 3, A 5 3, A 6 3, A 7 3, A 8 9]) (.seq (.reg [A 4 4, A 23 10, A 21 2, A 24 0, A 25 0, A 9 3, A 10 3, A 9 6, A 10 6]) (.seq (.reg [A 7 4, A 28 10, A 26 2, A 29 0, A 30 0, A 11 3, A 12 3, A 11 6, A 12 6]) (.seq (.draw [(0, A 9 4), (1, A 5 4), (3, A 6 4), (9, A 13 3), (2, A 34 10), (4, A 36 10), (5, A 37 10), (6, A 31 2), (7, A 38 0), (8, A 39 0), (10, A 13 6), (11, A 14 2)] [0, 0, 2, 0, 14, 31, 63, 127, 127, 0, 767, 2047]) (.seq (.seq (.reg [A 40 2, A 41 0]) (.cond (.seq (.reg [A 42 2, A 43 0, ⟨44, 2, true⟩, A 45 10, A 46 20, A 8 2]) .leaf) .leaf)) (.seq (.reg [A 9 4, A 13 4, A 50 10, A 47 2, A 51 0, A 52 0, A 53 0, A 54 0, A 15 3, A 16 3, A 17 3, A 15 6, A 16 6, A 17 6, A 14 2]) (.seq (.seq (.reg [A 55 2, A 56 0]) (.cond (.seq (.reg [A 57 2, A 58 0, ⟨59, 2, true⟩, A 60 10, A 61 20, A 8 2]) .leaf) .leaf)) (.seq (.seq (.draw [(0, A 15 4), (1, A 5 4), (2, A 64 10), (3, A 65 10), (4, A 66 20), (5, ⟨67, 2, true⟩), (6, A 16 4), (7, A 6 4), (8, A 70 10), (9, A 71 10), (10, A 72 20), (11, A 73 20), (12, ⟨74, 2, true⟩), (13, A 17 4), (14, A 76 10), (15, A 77 20)] [0, 0, 2, 7, 15, 31, 63, 63, 191, 511, 1023, 2047, 4095, 8191, 16383, 32767]) (.cond (.seq (.reg [A 8 9]) .leaf) .leaf)) (.seq (.reg [A 9 4, A 80 10, A 78 2, A 81 0, A 82 0, A 18 3, A 18 6, A 14 2]) (.seq (.reg [A 18 4, A 85 10, A 83 2, A 86 0, A 87 0, A 19 3, A 19 6, A 20 2]) (.seq (.seq (.reg [A 88 2, A 89 0, ⟨90, 2, true⟩, A 91 2, A 92 0, A 93 20, ⟨94, 2, true⟩, A 19 4, A 96 10, A 97 20, ⟨98, 2, true⟩, A 99 7, A 18 4, A 101 7, A 9 4, A 103 10, A 104 20, A 105 20, ⟨106, 2, true⟩, A 107 7, A 18 4, A 109 7, A 9 4, A 111 10, A 112 20, A 113 20]) (.cond (.seq (.reg [A 8 9]) .leaf) .leaf)) (.seq (.reg [A 18 4, A 13 4, A 117 10, A 114 2, A 118 0, A 119 0, A 120 0, A 121 0, A 17 6, A 14 2]) (.seq (.seq (.reg [A 122 2, A 123 0, ⟨124, 2, true⟩, A 17 4, A 126 10, A 127 20]) (.cond (.seq (.reg [A 8 9]) .leaf) .leaf)) (.seq (.reg [A 9 4, A 11 4, A 131 10, A 128 2, A 132 0, A 133 0, A 134 0, A 135 0, A 17 6, A 14 2]) (.seq (.seq (.reg [A 136 2, A 137 0]) (.cond (.seq (.reg [A 138 2, A 139 0, ⟨140, 2, true⟩, A 141 10, A 142 20, A 8 2]) .leaf) .leaf)) (.seq (.draw [(0, A 13 4), (1, A 11 4), (3, A 17 4), (2, A 145 10), (4, A 147 10), (5, A 148 0), (6, ⟨149, 2, true⟩), (7, A 150 10), (8, A 151 20), (9, A 8 2)] [0, 0, 3, 0, 15, 31, 63, 127, 255, 511]) .leaf))))))))))))))))
 (Eq.mpr (by kernel_rfl) h)

end Go.Proofs.YtefkpimcffofaaaGreat
