/- Part of the proof; it has the parts GSl1. -/
import Derived.Test.YtefkpimcffofaaaGreatGSc4
set_option maxRecDepth 100000
set_option maxHeartbeats 4000000
namespace Go.Proofs.YtefkpimcffofaaaGreat
open Go Go.Vc Go.Proofs
open Go.IntKind (i8 i16 i32 i64 u8 u16 u32 u64)

theorem waveportlaw08_spot_vc (p0 : Arr3) (V : View) (R : Value → View → Prop) 
 (h :
 ((0 : Int) ≤ 0 ∧ (0 : Int) < ((3 : Nat) : Int)) ∧
 ((0 : Int) ≤ 1 ∧ (1 : Int) < ((3 : Nat) : Int)) ∧
 ((0 : Int) ≤ 2 ∧ (2 : Int) < ((3 : Nat) : Int)) ∧
 ((0 : Int) ≤ 0 ∧ (0 : Int) < ((3 : Nat) : Int)) ∧
 ((0 : Int) ≤ 1 ∧ (1 : Int) < ((3 : Nat) : Int)) ∧
 ((0 : Int) ≤ 2 ∧ (2 : Int) < ((3 : Nat) : Int)) ∧
 CallV Tryz.prog 15 #[p0.e0.val] V fun v V1 => ∃ r1 : NumV, v = r1.val ∧
 CallV Tryz.prog 15 #[p0.e1.val] V1 fun v V2 => ∃ r2 : NumV, v = r2.val ∧
 CallV Tryz.prog 15 #[p0.e2.val] V2 fun v V3 => ∃ r3 : NumV, v = r3.val ∧
 CallV Tryz.prog 68 #[p0.e0.val] V3 fun v V4 => ∃ r4 : NumV, v = r4.val ∧
 CallV Tryz.prog 68 #[p0.e1.val] V4 fun v V5 => ∃ r5 : NumV, v = r5.val ∧
 CallV Tryz.prog 68 #[p0.e2.val] V5 fun v V6 => ∃ r6 : NumV, v = r6.val ∧
 R (.tuple #[(SpotV.mk r1 r2 r3).val, (SpotV.mk r4 r5 r6).val]) V6) :
 CallV Tryz.prog 85 #[p0.val] V R :=
 calls_of_vc (Shp := Shp) hmixed Tryz.func85 (c := Tryz.f85.body.getD .skip) (args := [p0.val]) (by kernel_rfl)
 (.seq (.reg [A 1 3, A 2 3, A 3 3]) (.seq (.draw [(0, A 4 7), (1, A 1 4), (3, A 7 7), (4, A 1 4), (6, A 10 7), (7, A 1 4), (10, A 14 7), (11, A 1 4), (13, A 17 7), (14, A 1 4), (16, A 20 7), (17, A 1 4), (2, A 6 10), (5, A 9 10), (8, A 12 10), (9, A 13 0), (12, A 16 10), (15, A 19 10), (18, A 22 10), (19, A 23 0), (20, A 2 6), (21, A 3 6)] [0, 1, 3, 0, 8, 31, 0, 64, 255, 511, 0, 1024, 3583, 0, 8192, 32255, 0, 65536, 261631, 523775, 524287, 2097151]) .leaf))
 (Eq.mpr (by kernel_rfl) h)

theorem waveportlaw08_frames_vc (p0 : LFrameV) (V : View) (R : Value → View → Prop) 
 (h :
 CallV Tryz.prog 85 #[p0.o.val] V fun v V1 => ∃ (r1 : SpotV) (r2 : SpotV), v = .tuple #[r1.val, r2.val] ∧
 CallV Tryz.prog 85 #[p0.u.val] V1 fun v V2 => ∃ (r3 : SpotV) (r4 : SpotV), v = .tuple #[r3.val, r4.val] ∧
 CallV Tryz.prog 85 #[p0.v.val] V2 fun v V3 => ∃ (r5 : SpotV) (r6 : SpotV), v = .tuple #[r5.val, r6.val] ∧
 R (.tuple #[(FrameV.mk r1 r3 r5).val, (FrameV.mk r2 r4 r6).val]) V3) :
 CallV Tryz.prog 76 #[p0.val] V R :=
 calls_of_vc (Shp := Shp) hmixed Tryz.func76 (c := Tryz.f76.body.getD .skip) (args := [p0.val]) (by kernel_rfl)
 (.seq (.reg [A 1 3, A 2 3, A 3 3]) (.seq (.reg [A 11 7, A 1 4, A 13 10, A 10 2, A 14 0, A 15 0, A 4 3, A 5 3, A 4 6, A 5 6]) (.seq (.reg [A 17 7, A 1 4, A 19 10, A 16 2, A 20 0, A 21 0, A 6 3, A 7 3, A 6 6, A 7 6]) (.seq (.reg [A 23 7, A 1 4, A 25 10, A 22 2, A 26 0, A 27 0, A 8 3, A 9 3, A 8 6, A 9 6]) (.seq (.draw [(0, A 4 4), (1, A 6 4), (2, A 8 4), (3, A 31 0), (4, A 5 4), (5, A 7 4), (6, A 9 4), (7, A 35 0), (8, A 2 6), (9, A 3 6)] [0, 0, 0, 7, 0, 0, 0, 112, 15, 511]) .leaf)))))
 (Eq.mpr (by kernel_rfl) h)

theorem waveportlaw08_distance_vc (p0 : SpotV) (p1 : SpotV) (V : View) (R : Value → View → Prop) 
 (h :
 CallV Tryz.prog 17 #[p0.x.val, p1.x.val] V fun v V1 => ∃ r1 : NumV, v = r1.val ∧
 CallV Tryz.prog 17 #[p0.y.val, p1.y.val] V1 fun v V2 => ∃ r2 : NumV, v = r2.val ∧
 CallV Tryz.prog 17 #[p0.z.val, p1.z.val] V2 fun v V3 => ∃ r3 : NumV, v = r3.val ∧
 CallV Tryz.prog 209 #[r1.val, r1.val] V3 fun v V4 => ∃ r4 : NumV, v = r4.val ∧
 CallV Tryz.prog 209 #[r2.val, r2.val] V4 fun v V5 => ∃ r5 : NumV, v = r5.val ∧
 CallV Tryz.prog 19 #[r4.val, r5.val] V5 fun v V6 => ∃ r6 : NumV, v = r6.val ∧
 CallV Tryz.prog 209 #[r3.val, r3.val] V6 fun v V7 => ∃ r7 : NumV, v = r7.val ∧
 CallV Tryz.prog 19 #[r6.val, r7.val] V7 fun v V8 => ∃ r8 : NumV, v = r8.val ∧
 R (r8.val) V8) :
 CallV Tryz.prog 95 #[p0.val, p1.val] V R :=
 calls_of_vc (Shp := Shp) hmixed Tryz.func95 (c := Tryz.f95.body.getD .skip) (args := [p0.val, p1.val]) (by kernel_rfl)
 (.seq (.reg [A 2 3, A 3 3, A 4 3]) (.seq (.draw [(0, A 8 7), (1, A 2 4), (2, A 10 7), (3, A 3 4), (5, A 13 7), (6, A 2 4), (7, A 15 7), (8, A 3 4), (10, A 18 7), (11, A 2 4), (12, A 20 7), (13, A 3 4), (15, A 5 3), (16, A 6 3), (17, A 7 3), (4, A 12 10), (9, A 17 10), (14, A 22 10), (18, A 5 6), (19, A 6 6), (20, A 7 6)] [0, 1, 0, 4, 15, 0, 32, 0, 128, 511, 0, 1024, 0, 4096, 16383, 0, 0, 0, 262143, 524287, 1048575]) (.seq (.draw [(0, A 5 4), (1, A 5 4), (3, A 6 4), (4, A 6 4), (7, A 7 4), (8, A 7 4), (2, A 25 10), (5, A 28 10), (6, A 29 10), (9, A 32 10), (10, A 33 10), (11, A 4 6)] [0, 0, 3, 0, 0, 31, 63, 0, 0, 511, 1023, 2047]) .leaf)))
 (Eq.mpr (by kernel_rfl) h)

theorem waveportlaw08_sameSpot_vc (p0 : SpotV) (p1 : SpotV) (V : View) (R : Value → View → Prop) 
 (h :
 CallV Tryz.prog 94 #[p0.x.val, p1.x.val] V fun v V1 => ∃ r1 : Bool, v = .bool r1 ∧
 (r1 = true →
 CallV Tryz.prog 94 #[p0.y.val, p1.y.val] V1 fun v V2 => ∃ r2 : Bool, v = .bool r2 ∧
 (r2 = true →
 CallV Tryz.prog 94 #[p0.z.val, p1.z.val] V2 fun v V3 => ∃ r3 : Bool, v = .bool r3 ∧
 R (.bool r3) V3) ∧
 (r2 = false →
 R (.bool false) V2)) ∧
 (r1 = false →
 R (.bool false) V1)) :
 CallV Tryz.prog 84 #[p0.val, p1.val] V R :=
 calls_of_vc (Shp := Shp) hmixed Tryz.func84 (c := Tryz.f84.body.getD .skip) (args := [p0.val, p1.val]) (by kernel_rfl)
 (.seq (.reg [A 2 3, A 3 3, A 4 9]) (.seq (.reg [A 5 7, A 2 4, A 7 7, A 3 4, A 9 10, ⟨10, 2, true⟩, A 11 7, A 2 4, A 13 7, A 3 4, A 15 10, A 16 20, ⟨17, 2, true⟩, A 18 7, A 2 4, A 20 7, A 3 4, A 22 10, A 23 20, A 4 2]) .leaf))
 (Eq.mpr (by kernel_rfl) h)

theorem waveportlaw08_awake_vc  (V : View) (R : Value → View → Prop) 
 (h :
 CallV Tryz.prog 82 #[.int .i64 2] V fun v V1 => ∃ r1 : NumV, v = r1.val ∧
 CallV Tryz.prog 82 #[.int .i64 1] V1 fun v V2 => ∃ r2 : NumV, v = r2.val ∧
 CallV Tryz.prog 82 #[.int .i64 3] V2 fun v V3 => ∃ r3 : NumV, v = r3.val ∧
 ∀ (b1 : Nat) (V4 : View), View.le V3 V4 → View.Fin V4 → V4 b1 = some #[.int .i64 0, .int .i64 0, .bool false, .slice none 0 0, .bool false, .slice none 0 0, .slice none 0 0, .bool false, .slice none 0 0, .bool false, .slice none 0 0, .slice none 0 0, .bool false, .slice none 0 0, .bool false, .slice none 0 0, .slice none 0 0, .int .i64 1, .int .i64 0, .bool r1.re.neg, r1.re.mag.v, .bool r1.im.neg, r1.im.mag.v, r1.under.v, .bool false, .slice none 0 0, .bool false, .slice none 0 0, .slice none 0 0, .bool false, .slice none 0 0, .bool false, .slice none 0 0, .slice none 0 0, .int .i64 0, .int .i64 1, .bool r2.re.neg, r2.re.mag.v, .bool r2.im.neg, r2.im.mag.v, r2.under.v, .bool r3.re.neg, r3.re.mag.v, .bool r3.im.neg, r3.im.mag.v, r3.under.v, .bool false, .slice none 0 0, .bool false, .slice none 0 0, .slice none 0 0] →
 CallV Tryz.prog 73 #[(Sl.mk (some (Addr.mk b1 0 none)) 3 3).v] V4 fun v V5 => ∃ (r4 : FrameV) (r5 : Int), v = .tuple #[r4.val, .int .i64 r5] ∧
 CallV Tryz.prog 86 #[r4.val] V5 fun v V6 => ∃ (r6 : NumV) (r7 : Int), v = .tuple #[r6.val, .int .i64 r7] ∧
 CallV Tryz.prog 82 #[.int .i64 10] V6 fun v V7 => ∃ r8 : NumV, v = r8.val ∧
 CallV Tryz.prog 82 #[.int .i64 5] V7 fun v V8 => ∃ r9 : NumV, v = r9.val ∧
 ∀ (b2 : Nat) (V9 : View), View.le V8 V9 → View.Fin V9 → V9 b2 = some #[.bool false, .slice none 0 0, .bool false, .slice none 0 0, .slice none 0 0, .bool false, .slice none 0 0, .bool false, .slice none 0 0, .slice none 0 0, .bool r8.re.neg, r8.re.mag.v, .bool r8.im.neg, r8.im.mag.v, r8.under.v, .bool r9.re.neg, r9.re.mag.v, .bool r9.im.neg, r9.im.mag.v, r9.under.v] →
 CallV Tryz.prog 82 #[.int .i64 3] V9 fun v V10 => ∃ r10 : NumV, v = r10.val ∧
 CallV Tryz.prog 70 #[(Sl.mk (some (Addr.mk b2 0 none)) 2 2).v, r10.val] V10 fun v V11 => ∃ (r11 : NumV) (r12 : Int), v = .tuple #[r11.val, .int .i64 r12] ∧
 CallV Tryz.prog 165 #[.int .i64 4, .int .i64 2] V11 fun v V12 => ∃ (r13 : Int) (r14 : Int), v = .tuple #[.int .i64 r13, .int .i64 r14] ∧
 (((r5 : Int) == 0) = true →
 (((r7 : Int) == 0) = true →
 CallV Tryz.prog 130 #[r6.val] V12 fun v V13 => ∃ r15 : ByteArray, v = .string r15 ∧
 ((ByteArray.toList r15 == ByteArray.toList (ByteArray.mk #[50])) = true →
 (((r12 : Int) == 0) = true →
 CallV Tryz.prog 130 #[r11.val] V13 fun v V14 => ∃ r16 : ByteArray, v = .string r16 ∧
 ((ByteArray.toList r16 == ByteArray.toList (ByteArray.mk #[54])) = true →
 (((r14 : Int) == 0) = true →
 R (.bool ((r13 : Int) == (-2))) V14) ∧
 (((r14 : Int) == 0) = false →
 R (.bool false) V14)) ∧
 ((ByteArray.toList r16 == ByteArray.toList (ByteArray.mk #[54])) = false →
 R (.bool false) V14)) ∧
 (((r12 : Int) == 0) = false →
 R (.bool false) V13)) ∧
 ((ByteArray.toList r15 == ByteArray.toList (ByteArray.mk #[50])) = false →
 R (.bool false) V13)) ∧
 (((r7 : Int) == 0) = false →
 R (.bool false) V12)) ∧
 (((r5 : Int) == 0) = false →
 R (.bool false) V12)) :
 CallV Tryz.prog 64 #[] V R :=
 calls_of_vc (Shp := Shp) hmixed Tryz.func64 (c := Tryz.f64.body.getD .skip) (args := []) (by kernel_rfl)
 (.seq (.reg [A 0 9]) (.seq (.reg [A 12 0, A 1 3, A 1 6]) (.seq (.draw [(0, A 1 4), (1, A 14 0), (2, A 15 10), (3, A 16 0), (4, A 17 0), (5, A 18 10), (6, A 19 10), (7, A 20 0), (8, A 21 0), (9, A 22 11), (10, A 2 2)] [0, 1, 0, 4, 12, 4, 36, 100, 228, 511, 1023]) (.seq (.reg [A 24 2, A 25 10, A 23 2, A 26 0, A 27 0, A 3 3, A 3 6, A 4 2]) (.seq (.reg [A 3 4, A 30 10, A 28 2, A 31 0, A 32 0, A 5 3, A 5 6, A 6 2]) (.seq (.reg [A 33 0, A 34 10, A 35 10, A 36 0, A 37 11, A 7 2]) (.seq (.reg [A 39 2, A 40 10, A 41 10, A 38 2, A 42 0, A 43 0, A 8 3, A 8 6, A 9 2]) (.seq (.reg [A 45 10, A 44 2, A 46 0, A 47 0, A 10 2, A 11 2]) (.seq (.reg [A 48 2, A 49 0, ⟨50, 2, true⟩, A 51 2, A 52 0, A 53 20, ⟨54, 2, true⟩, A 5 4, A 56 10, A 57 0, A 58 20, ⟨59, 2, true⟩, A 60 2, A 61 0, A 62 20, ⟨63, 2, true⟩, A 8 4, A 65 10, A 66 0, A 67 20, ⟨68, 2, true⟩, A 69 2, A 70 0, A 71 20, ⟨72, 2, true⟩, A 73 2, A 74 0, A 75 20, A 0 2]) .leaf)))))))))
 (Eq.mpr (by kernel_rfl) h)

end Go.Proofs.YtefkpimcffofaaaGreat
