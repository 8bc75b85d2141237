/- Part of the proof; it has the parts GBla. -/
import Derived.Test.YtkibfmnkkiakoaaGreatFTr1
set_option maxRecDepth 100000
set_option maxHeartbeats 4000000
namespace Go.Proofs.YtkibfmnkkiakoaaGreat
open Go Go.Vc Go.Proofs
open Go.IntKind (i8 i16 i32 i64 u8 u16 u32 u64)

theorem law2_within_vc (p0 : SpV) (p1 : Int) (V : View) (R : Value → View → Prop) 
 (h :
 CallV Tryz.prog 201 #[.float .f64 p0.lo] V fun v V1 => ∃ (r1 : NumV) (r2 : Int), v = .tuple #[r1.val, .int .i64 r2] ∧
 CallV Tryz.prog 201 #[.float .f64 p0.hi] V1 fun v V2 => ∃ (r3 : NumV) (r4 : Int), v = .tuple #[r3.val, .int .i64 r4] ∧
 (((r2 : Int) != 0) = true →
 CallV Tryz.prog 108 #[.int .i64 0] V2 fun v V3 => ∃ r5 : NumV, v = r5.val ∧
 R (.tuple #[(NumV.mk (WhV.mk false (Sl.mk none 0 0)) (WhV.mk false (Sl.mk none 0 0)) (Sl.mk none 0 0)).val, r5.val, .bool false]) V3) ∧
 (((r2 : Int) != 0) = false →
 (((r4 : Int) != 0) = true →
 CallV Tryz.prog 108 #[.int .i64 0] V2 fun v V4 => ∃ r6 : NumV, v = r6.val ∧
 R (.tuple #[(NumV.mk (WhV.mk false (Sl.mk none 0 0)) (WhV.mk false (Sl.mk none 0 0)) (Sl.mk none 0 0)).val, r6.val, .bool false]) V4) ∧
 (((r4 : Int) != 0) = false →
 CallV Tryz.prog 37 #[(RatV.mk (i64.wrap p1) 0 255).val] V2 fun v V5 => ∃ r7 : NumV, v = r7.val ∧
 CallV Tryz.prog 56 #[.complex .f64 (CxV.mk p0.lo 0).re (CxV.mk p0.lo 0).im] V5 fun v V6 => ∃ (r8 : NumV) (r9 : Int), v = .tuple #[r8.val, .int .i64 r9] ∧
 CallV Tryz.prog 56 #[.complex .f64 (CxV.mk p0.hi 0).re (CxV.mk p0.hi 0).im] V6 fun v V7 => ∃ (r10 : NumV) (r11 : Int), v = .tuple #[r10.val, .int .i64 r11] ∧
 CallV Tryz.prog 80 #[r10.val, r8.val] V7 fun v V8 => ∃ r12 : NumV, v = r12.val ∧
 CallV Tryz.prog 35 #[(RatV.mk (i64.wrap p1) 0 255).val] V8 fun v V9 => ∃ r13 : NumV, v = r13.val ∧
 CallV Tryz.prog 91 #[r12.val, r13.val] V9 fun v V10 => ∃ r14 : NumV, v = r14.val ∧
 CallV Tryz.prog 81 #[r8.val, r14.val] V10 fun v V11 => ∃ r15 : NumV, v = r15.val ∧
 CallV Tryz.prog 235 #[r3.val, r1.val] V11 fun v V12 => ∃ r16 : NumV, v = r16.val ∧
 CallV Tryz.prog 234 #[r16.val, r7.val] V12 fun v V13 => ∃ r17 : NumV, v = r17.val ∧
 CallV Tryz.prog 204 #[r1.val, r17.val] V13 fun v V14 => ∃ r18 : NumV, v = r18.val ∧
 R (.tuple #[r15.val, r18.val, .bool true]) V14))) :
 CallV Tryz.prog 175 #[p0.val, .int .u8 p1] V R :=
 calls_of_vc (Shp := Shp) hmixed Tryz.func175 (c := Tryz.f175.body.getD .skip) (args := [p0.val, .int .u8 p1]) (by kernel_rfl)
 (.seq (.reg [A 2 3, A 4 3, A 5 3, A 6 9]) (.seq (.reg [A 18 7, A 2 4, A 20 10, A 17 2, A 21 0, A 22 0, A 7 3, A 7 6, A 8 2]) (.seq (.reg [A 24 7, A 2 4, A 26 10, A 23 2, A 27 0, A 28 0, A 9 3, A 9 6, A 10 2]) (.seq (.seq (.reg [A 29 2, A 30 0, ⟨31, 2, true⟩, A 32 2, A 33 0, A 34 20]) (.cond (.seq (.reg [A 35 0, A 36 10, A 4 6, A 5 6, A 6 9]) .leaf) .leaf)) (.seq (.reg [A 37 2, A 38 0, A 39 0, A 40 10, A 11 3, A 11 6]) (.seq (.reg [A 42 7, A 2 4, A 44 0, A 45 10, A 41 2, A 46 0, A 47 0, A 12 3, A 12 6, A 13 2]) (.seq (.reg [A 49 7, A 2 4, A 51 0, A 52 10, A 48 2, A 53 0, A 54 0, A 14 3, A 14 6, A 15 2]) (.seq (.draw [(0, A 12 4), (1, A 14 4), (2, A 12 4), (4, A 59 2), (5, A 60 0), (6, A 61 0), (10, A 16 3), (3, A 58 10), (7, A 62 10), (8, A 63 10), (9, A 64 10), (11, A 16 6)] [0, 0, 0, 6, 0, 16, 48, 126, 254, 511, 0, 2047]) (.seq (.draw [(0, A 16 4), (1, A 7 4), (2, A 9 4), (3, A 7 4), (5, A 11 4), (4, A 69 10), (6, A 71 10), (7, A 72 10), (8, A 4 6), (9, A 5 6), (10, A 6 9)] [0, 0, 0, 0, 12, 0, 60, 126, 255, 511, 1023]) .leaf)))))))))
 (Eq.mpr (by kernel_rfl) h)

theorem law2_inside_vc (p0 : BoxV) (p1 : PlaceV) (V : View) (R : Value → View → Prop) 
 (h :
 CallV Tryz.prog 175 #[p0.re.val, .int .u8 p1.re] V fun v V1 => ∃ (r1 : NumV) (r2 : NumV) (r3 : Bool), v = .tuple #[r1.val, r2.val, .bool r3] ∧
 CallV Tryz.prog 175 #[p0.im.val, .int .u8 p1.im] V1 fun v V2 => ∃ (r4 : NumV) (r5 : NumV) (r6 : Bool), v = .tuple #[r4.val, r5.val, .bool r6] ∧
 CallV Tryz.prog 35 #[(RatV.mk 0 1 0).val] V2 fun v V3 => ∃ r7 : NumV, v = r7.val ∧
 CallV Tryz.prog 91 #[r4.val, r7.val] V3 fun v V4 => ∃ r8 : NumV, v = r8.val ∧
 CallV Tryz.prog 81 #[r1.val, r8.val] V4 fun v V5 => ∃ r9 : NumV, v = r9.val ∧
 (r3 = true →
 R (.tuple #[r9.val, .bool r6]) V5) ∧
 (r3 = false →
 R (.tuple #[r9.val, .bool false]) V5)) :
 CallV Tryz.prog 88 #[p0.val, p1.val] V R :=
 calls_of_vc (Shp := Shp) hmixed Tryz.func88 (c := Tryz.f88.body.getD .skip) (args := [p0.val, p1.val]) (by kernel_rfl)
 (.seq (.reg [A 2 3, A 3 3, A 4 3, A 5 9]) (.seq (.reg [A 13 7, A 2 4, A 15 7, A 3 4, A 17 10, A 12 2, A 18 0, A 19 0, A 20 0, A 6 3, A 7 3, A 6 6, A 7 6, A 8 2]) (.seq (.reg [A 22 7, A 2 4, A 24 7, A 3 4, A 26 10, A 21 2, A 27 0, A 28 0, A 29 0, A 9 3, A 10 3, A 9 6, A 10 6, A 11 2]) (.seq (.draw [(0, A 6 4), (1, A 9 4), (2, A 32 0), (6, A 36 2), (3, A 33 10), (4, A 34 10), (5, A 35 10), (7, ⟨37, 2, true⟩), (8, A 38 2), (9, A 39 20), (10, A 4 6), (11, A 5 2)] [0, 0, 0, 4, 14, 31, 0, 127, 255, 511, 255, 2047]) .leaf))))
 (Eq.mpr (by kernel_rfl) h)

theorem law2_spanOf_vc (p0 : SpV) (V : View) (R : Value → View → Prop) 
 (h :
 CallV Tryz.prog 153 #[.float .f64 p0.lo, .float .f64 p0.hi] V fun v V1 => ∃ (r1 : SpV) (r2 : Int), v = .tuple #[r1.val, .int .i64 r2] ∧
 R (r1.val) V1) :
 CallV Tryz.prog 160 #[p0.val] V R :=
 calls_of_vc (Shp := Shp) hmixed Tryz.func160 (c := Tryz.f160.body.getD .skip) (args := [p0.val]) (by kernel_rfl)
 (.seq (.reg [A 1 3, A 2 3]) (.seq (.reg [A 6 7, A 1 4, A 8 7, A 1 4, A 10 10, A 5 2, A 11 0, A 12 0, A 3 3, A 3 6, A 4 2]) (.seq (.reg [A 3 4, A 2 6]) .leaf)))
 (Eq.mpr (by kernel_rfl) h)

theorem law2_part_vc (p0 : BoxV) (p1 : PlaceV) (p2 : PlaceV) (V : View) (R : Value → View → Prop) 
 (h :
 CallV Tryz.prog 88 #[p0.val, p1.val] V fun v V1 => ∃ (r1 : NumV) (r2 : Bool), v = .tuple #[r1.val, .bool r2] ∧
 CallV Tryz.prog 88 #[p0.val, p2.val] V1 fun v V2 => ∃ (r3 : NumV) (r4 : Bool), v = .tuple #[r3.val, .bool r4] ∧
 ((!r2) = true →
 R (.tuple #[(BoxV.mk (SpV.mk 0 0) (SpV.mk 0 0)).val, .bool false]) V2) ∧
 ((!r2) = false →
 ((!r4) = true →
 R (.tuple #[(BoxV.mk (SpV.mk 0 0) (SpV.mk 0 0)).val, .bool false]) V2) ∧
 ((!r4) = false →
 CallV Tryz.prog 47 #[(BoxV.mk (SpV.mk 0 0) (SpV.mk 0 0)).val, r1.val] V2 fun v V3 => ∃ r5 : BoxV, v = r5.val ∧
 CallV Tryz.prog 47 #[(BoxV.mk (SpV.mk 0 0) (SpV.mk 0 0)).val, r3.val] V3 fun v V4 => ∃ r6 : BoxV, v = r6.val ∧
 CallV Tryz.prog 53 #[r5.val, r6.val] V4 fun v V5 => ∃ r7 : BoxV, v = r7.val ∧
 CallV Tryz.prog 160 #[p0.re.val] V5 fun v V6 => ∃ r8 : SpV, v = r8.val ∧
 CallV Tryz.prog 160 #[p0.im.val] V6 fun v V7 => ∃ r9 : SpV, v = r9.val ∧
 CallV Tryz.prog 96 #[r8.val, r9.val] V7 fun v V8 => ∃ r10 : BoxV, v = r10.val ∧
 CallV Tryz.prog 45 #[r7.val, r10.val] V8 fun v V9 => ∃ (r11 : BoxV) (r12 : Bool), v = .tuple #[r11.val, .bool r12] ∧
 R (.tuple #[r11.val, .bool true]) V9))) :
 CallV Tryz.prog 77 #[p0.val, p1.val, p2.val] V R :=
 calls_of_vc (Shp := Shp) hmixed Tryz.func77 (c := Tryz.f77.body.getD .skip) (args := [p0.val, p1.val, p2.val]) (by kernel_rfl)
 (.seq (.reg [A 3 3, A 4 3, A 5 3, A 6 3, A 7 9]) (.seq (.reg [A 3 4, A 4 4, A 19 10, A 16 2, A 20 0, A 21 0, A 8 3, A 8 6, A 9 2]) (.seq (.reg [A 3 4, A 5 4, A 25 10, A 22 2, A 26 0, A 27 0, A 10 3, A 10 6, A 11 2]) (.seq (.seq (.reg [A 28 2, A 29 20, ⟨30, 2, true⟩, A 31 2, A 32 20, A 33 20]) (.cond (.seq (.reg [A 34 0, A 6 6, A 7 9]) .leaf) .leaf)) (.seq (.draw [(0, A 35 0), (1, A 8 4), (3, A 38 0), (4, A 10 4), (7, A 12 3), (2, A 37 10), (5, A 40 10), (6, A 41 10), (8, A 12 6)] [0, 0, 3, 0, 0, 31, 63, 0, 255]) (.seq (.draw [(0, A 42 7), (1, A 3 4), (3, A 45 7), (4, A 3 4), (7, A 13 3), (2, A 44 10), (5, A 47 10), (6, A 48 10), (8, A 13 6)] [0, 1, 3, 0, 8, 31, 63, 0, 255]) (.seq (.reg [A 12 4, A 13 4, A 52 10, A 49 2, A 53 0, A 54 0, A 14 3, A 14 6, A 15 2]) (.seq (.reg [A 14 4, A 6 6, A 7 9]) .leaf))))))))
 (Eq.mpr (by kernel_rfl) h)

end Go.Proofs.YtkibfmnkkiakoaaGreat
