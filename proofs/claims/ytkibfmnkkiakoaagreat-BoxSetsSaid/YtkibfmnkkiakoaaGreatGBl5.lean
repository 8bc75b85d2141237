/- Part of the proof; it has the parts GBl5. -/
import Derived.Test.YtkibfmnkkiakoaaGreatFTr1
set_option maxRecDepth 100000
set_option maxHeartbeats 4000000
namespace Go.Proofs.YtkibfmnkkiakoaaGreat
open Go Go.Vc Go.Proofs
open Go.IntKind (i8 i16 i32 i64 u8 u16 u32 u64)

theorem law2_BoxSets_vc (p0 : SidesV) (p1 : SidesV) (p2 : RatV) (V : View) (R : Value → View → Prop) 
 (h :
 CallV Tryz.prog 15 #[] V fun v V1 => ∃ r1 : Bool, v = .bool r1 ∧
 ((!r1) = true →
 R (.bool false) V1) ∧
 ((!r1) = false →
 CallV Tryz.prog 16 #[p0.val] V1 fun v V2 => ∃ (r2 : BoxV) (r3 : BoxV) (r4 : Bool), v = .tuple #[r2.val, r3.val, .bool r4] ∧
 CallV Tryz.prog 16 #[p1.val] V2 fun v V3 => ∃ (r5 : BoxV) (r6 : BoxV) (r7 : Bool), v = .tuple #[r5.val, r6.val, .bool r7] ∧
 ((!r4) = true →
 R (.bool true) V3) ∧
 ((!r4) = false →
 ((!r7) = true →
 R (.bool true) V3) ∧
 ((!r7) = false →
 CallV Tryz.prog 45 #[r2.val, r5.val] V3 fun v V4 => ∃ (r8 : BoxV) (r9 : Bool), v = .tuple #[r8.val, .bool r9] ∧
 CallV Tryz.prog 46 #[r3.val, r6.val] V4 fun v V5 => ∃ (r10 : BoxV) (r11 : Bool), v = .tuple #[r10.val, .bool r11] ∧
 CallV Tryz.prog 35 #[p2.val] V5 fun v V6 => ∃ r12 : NumV, v = r12.val ∧
 CallV Tryz.prog 47 #[r2.val, r12.val] V6 fun v V7 => ∃ r13 : BoxV, v = r13.val ∧
 CallV Tryz.prog 37 #[p2.val] V7 fun v V8 => ∃ r14 : NumV, v = r14.val ∧
 CallV Tryz.prog 48 #[r14.val] V8 fun v V9 => ∃ r15 : BoxV, v = r15.val ∧
 CallV Tryz.prog 17 #[r13.val, r15.val] V9 fun v V10 => ∃ r16 : Bool, v = .bool r16 ∧
 (r16 = true →
 CallV Tryz.prog 35 #[p2.val] V10 fun v V11 => ∃ r17 : NumV, v = r17.val ∧
 CallV Tryz.prog 49 #[r2.val, r17.val] V11 fun v V12 => ∃ r18 : Bool, v = .bool r18 ∧
 CallV Tryz.prog 37 #[p2.val] V12 fun v V13 => ∃ r19 : NumV, v = r19.val ∧
 CallV Tryz.prog 50 #[r3.val, r19.val] V13 fun v V14 => ∃ r20 : Bool, v = .bool r20 ∧
 ((r18 == r20) = true →
 CallV Tryz.prog 51 #[r2.val, r5.val] V14 fun v V15 => ∃ r21 : Bool, v = .bool r21 ∧
 CallV Tryz.prog 52 #[r3.val, r6.val] V15 fun v V16 => ∃ r22 : Bool, v = .bool r22 ∧
 ((r21 == r22) = true →
 CallV Tryz.prog 53 #[r2.val, r5.val] V16 fun v V17 => ∃ r23 : BoxV, v = r23.val ∧
 CallV Tryz.prog 54 #[r3.val, r6.val] V17 fun v V18 => ∃ r24 : BoxV, v = r24.val ∧
 CallV Tryz.prog 17 #[r23.val, r24.val] V18 fun v V19 => ∃ r25 : Bool, v = .bool r25 ∧
 (r25 = true →
 ((r9 == r11) = true →
 CallV Tryz.prog 17 #[r8.val, r10.val] V19 fun v V20 => ∃ r26 : Bool, v = .bool r26 ∧
 (r26 = true →
 ∃ c1 : Bool, EqAt Tryz.prog 36 (r3.val) (r6.val) c1 ∧
 CallV Tryz.prog 55 #[r2.val, r5.val] V20 fun v V21 => ∃ r27 : Bool, v = .bool r27 ∧
 R (.bool (r27 == c1)) V21) ∧
 (r26 = false →
 R (.bool false) V20)) ∧
 ((r9 == r11) = false →
 R (.bool false) V19)) ∧
 (r25 = false →
 R (.bool false) V19)) ∧
 ((r21 == r22) = false →
 R (.bool false) V16)) ∧
 ((r18 == r20) = false →
 R (.bool false) V14)) ∧
 (r16 = false →
 R (.bool false) V10))))) :
 CallV Tryz.prog 7 #[p0.val, p1.val, p2.val] V R :=
 calls_of_vc (Shp := Shp) hmixed Tryz.func7 (c := Tryz.f7.body.getD .skip) (args := [p0.val, p1.val, p2.val]) (by kernel_rfl)
 (.seq (.reg [A 3 3, A 4 3, A 5 3, A 6 9]) (.seq (.seq (.reg [A 17 10, A 18 20]) (.cond (.seq (.reg [A 6 9]) .leaf) .leaf)) (.seq (.reg [A 3 4, A 21 10, A 19 2, A 22 0, A 23 0, A 24 0, A 7 3, A 8 3, A 7 6, A 8 6, A 9 2]) (.seq (.reg [A 4 4, A 27 10, A 25 2, A 28 0, A 29 0, A 30 0, A 10 3, A 11 3, A 10 6, A 11 6, A 12 2]) (.seq (.seq (.reg [A 31 2, A 32 20, ⟨33, 2, true⟩, A 34 2, A 35 20, A 36 20]) (.cond (.seq (.reg [A 6 9]) .leaf) .leaf)) (.seq (.reg [A 7 4, A 10 4, A 40 10, A 37 2, A 41 0, A 42 0, A 13 3, A 13 6, A 14 2]) (.seq (.reg [A 8 4, A 11 4, A 46 10, A 43 2, A 47 0, A 48 0, A 15 3, A 15 6, A 16 2]) (.seq (.draw [(0, A 7 4), (1, A 5 4), (4, A 5 4), (2, A 51 10), (3, A 52 10), (5, A 54 10), (6, A 55 10), (7, A 56 10), (8, ⟨57, 2, true⟩), (9, A 7 4), (10, A 5 4), (13, A 8 4), (14, A 5 4), (11, A 60 10), (12, A 61 10), (15, A 64 10), (16, A 65 10), (17, A 66 0), (18, A 67 20), (19, ⟨68, 2, true⟩), (20, A 7 4), (21, A 10 4), (23, A 8 4), (24, A 11 4), (22, A 71 10), (25, A 74 10), (26, A 75 0), (27, A 76 20), (28, ⟨77, 2, true⟩), (29, A 7 4), (30, A 10 4), (32, A 8 4), (33, A 11 4), (31, A 80 10), (34, A 83 10), (35, A 84 10), (36, A 85 20), (37, ⟨86, 2, true⟩), (38, A 87 2), (39, A 88 2), (40, A 89 0), (41, A 90 20), (42, ⟨91, 2, true⟩), (43, A 13 4), (44, A 15 4), (45, A 94 10), (46, A 95 20), (47, ⟨96, 2, true⟩), (48, A 7 4), (49, A 10 4), (51, A 8 4), (52, A 11 4), (53, A 102 12), (50, A 99 10), (54, A 103 0), (55, A 104 20), (56, A 6 2)] [0, 0, 2, 7, 0, 31, 63, 127, 255, 511, 511, 1535, 4095, 511, 511, 24575, 65535, 131071, 262143, 524287, 1048575, 1048575, 4194303, 1048575, 1048575, 33554431, 67108863, 134217727, 268435455, 536870911, 536870911, 2147483647, 536870911, 536870911, 17179869183, 34359738367, 68719476735, 137438953471, 274877906943, 274877906943, 1099511627775, 2199023255551, 4398046511103, 8796093022207, 8796093022207, 35184372088831, 70368744177663, 140737488355327, 281474976710655, 281474976710655, 1125899906842623, 281474976710655, 281474976710655, 7036874417766399, 18014398509481983, 36028797018963967, 72057594037927935]) .leaf))))))))
 (Eq.mpr (by kernel_rfl) h)

end Go.Proofs.YtkibfmnkkiakoaaGreat
