/- Part of the proof; it has the parts GBlb. -/
import Derived.Test.YtkibfmnkkiakoaaGreatFR1
set_option maxRecDepth 100000
set_option maxHeartbeats 4000000
namespace Go.Proofs.YtkibfmnkkiakoaaGreat
open Go Go.Vc Go.Proofs
open Go.IntKind (i8 i16 i32 i64 u8 u16 u32 u64)

theorem law2_BoxGrows_vc (p0 : SidesV) (p1 : SidesV) (p2 : Arr4) (V : View) (R : Value → View → Prop) 
 (h :
 CallV Tryz.prog 15 #[] V fun v V1 => ∃ r1 : Bool, v = .bool r1 ∧
 ((!r1) = true →
 R (.bool false) V1) ∧
 ((!r1) = false →
 CallV Tryz.prog 16 #[p0.val] V1 fun v V2 => ∃ (r2 : BoxV) (r3 : BoxV) (r4 : Bool), v = .tuple #[r2.val, r3.val, .bool r4] ∧
 CallV Tryz.prog 16 #[p1.val] V2 fun v V3 => ∃ (r5 : BoxV) (r6 : BoxV) (r7 : Bool), v = .tuple #[r5.val, r6.val, .bool r7] ∧
 ((!r4) = true →
 R (.bool true) V3) ∧
 ((!r4) = false →
 ((!r7) = true →
 R (.bool true) V3) ∧
 ((!r7) = false →
 ((0 : Int) ≤ 0 ∧ (0 : Int) < ((4 : Nat) : Int)) ∧
 ((0 : Int) ≤ 1 ∧ (1 : Int) < ((4 : Nat) : Int)) ∧
 CallV Tryz.prog 77 #[r3.val, p2.e0.val, p2.e1.val] V3 fun v V4 => ∃ (r8 : BoxV) (r9 : Bool), v = .tuple #[r8.val, .bool r9] ∧
 ((0 : Int) ≤ 2 ∧ (2 : Int) < ((4 : Nat) : Int)) ∧
 ((0 : Int) ≤ 3 ∧ (3 : Int) < ((4 : Nat) : Int)) ∧
 CallV Tryz.prog 77 #[r6.val, p2.e2.val, p2.e3.val] V4 fun v V5 => ∃ (r10 : BoxV) (r11 : Bool), v = .tuple #[r10.val, .bool r11] ∧
 ((!r9) = true →
 R (.bool true) V5) ∧
 ((!r9) = false →
 ((!r11) = true →
 R (.bool true) V5) ∧
 ((!r11) = false →
 CallV Tryz.prog 26 #[r2.val] V5 fun v V6 => ∃ (r12 : BoxV) (r13 : Int), v = .tuple #[r12.val, .int .i64 r13] ∧
 CallV Tryz.prog 26 #[r8.val] V6 fun v V7 => ∃ (r14 : BoxV) (r15 : Int), v = .tuple #[r14.val, .int .i64 r15] ∧
 (((r13 : Int) == 0) = true →
 (((r15 : Int) != 0) = true →
 R (.bool false) V7) ∧
 (((r15 : Int) != 0) = false →
 CallV Tryz.prog 51 #[r14.val, r12.val] V7 fun v V8 => ∃ r16 : Bool, v = .bool r16 ∧
 ((!r16) = true →
 R (.bool false) V8) ∧
 ((!r16) = false →
 CallV Tryz.prog 28 #[r2.val, r5.val] V8 fun v V9 => ∃ (r17 : BoxV) (r18 : Int), v = .tuple #[r17.val, .int .i64 r18] ∧
 CallV Tryz.prog 28 #[r8.val, r10.val] V9 fun v V10 => ∃ (r19 : BoxV) (r20 : Int), v = .tuple #[r19.val, .int .i64 r20] ∧
 (((r18 : Int) == 0) = true →
 (((r20 : Int) != 0) = true →
 R (.bool false) V10) ∧
 (((r20 : Int) != 0) = false →
 CallV Tryz.prog 51 #[r19.val, r17.val] V10 fun v V11 => ∃ r21 : Bool, v = .bool r21 ∧
 ((!r21) = true →
 R (.bool false) V11) ∧
 ((!r21) = false →
 CallV Tryz.prog 61 #[r2.val] V11 fun v V12 => ∃ (r22 : BoxV) (r23 : Bool), v = .tuple #[r22.val, .bool r23] ∧
 CallV Tryz.prog 61 #[r8.val] V12 fun v V13 => ∃ (r24 : BoxV) (r25 : Bool), v = .tuple #[r24.val, .bool r25] ∧
 CallV Tryz.prog 43 #[r8.val] V13 fun v V14 => ∃ r26 : SpV, v = r26.val ∧
 CallV Tryz.prog 67 #[r26.val] V14 fun v V15 => ∃ (r27 : SpV) (r28 : Int), v = .tuple #[r27.val, .int .i64 r28] ∧
 CallV Tryz.prog 43 #[r2.val] V15 fun v V16 => ∃ r29 : SpV, v = r29.val ∧
 CallV Tryz.prog 67 #[r29.val] V16 fun v V17 => ∃ (r30 : SpV) (r31 : Int), v = .tuple #[r30.val, .int .i64 r31] ∧
 CallV Tryz.prog 51 #[r8.val, r2.val] V17 fun v V18 => ∃ r32 : Bool, v = .bool r32 ∧
 (r32 = true →
 CallV Tryz.prog 51 #[r10.val, r5.val] V18 fun v V19 => ∃ r33 : Bool, v = .bool r33 ∧
 (r33 = true →
 CallV Tryz.prog 18 #[r8.val, r10.val] V19 fun v V20 => ∃ r34 : BoxV, v = r34.val ∧
 CallV Tryz.prog 18 #[r2.val, r5.val] V20 fun v V21 => ∃ r35 : BoxV, v = r35.val ∧
 CallV Tryz.prog 51 #[r34.val, r35.val] V21 fun v V22 => ∃ r36 : Bool, v = .bool r36 ∧
 (r36 = true →
 CallV Tryz.prog 20 #[r8.val, r10.val] V22 fun v V23 => ∃ r37 : BoxV, v = r37.val ∧
 CallV Tryz.prog 20 #[r2.val, r5.val] V23 fun v V24 => ∃ r38 : BoxV, v = r38.val ∧
 CallV Tryz.prog 51 #[r37.val, r38.val] V24 fun v V25 => ∃ r39 : Bool, v = .bool r39 ∧
 (r39 = true →
 CallV Tryz.prog 41 #[r8.val, r10.val] V25 fun v V26 => ∃ r40 : BoxV, v = r40.val ∧
 CallV Tryz.prog 41 #[r2.val, r5.val] V26 fun v V27 => ∃ r41 : BoxV, v = r41.val ∧
 CallV Tryz.prog 51 #[r40.val, r41.val] V27 fun v V28 => ∃ r42 : Bool, v = .bool r42 ∧
 (r42 = true →
 CallV Tryz.prog 43 #[r8.val] V28 fun v V29 => ∃ r43 : SpV, v = r43.val ∧
 CallV Tryz.prog 43 #[r2.val] V29 fun v V30 => ∃ r44 : SpV, v = r44.val ∧
 CallV Tryz.prog 63 #[r43.val, r44.val] V30 fun v V31 => ∃ r45 : Bool, v = .bool r45 ∧
 (r45 = true →
 CallV Tryz.prog 51 #[r24.val, r22.val] V31 fun v V32 => ∃ r46 : Bool, v = .bool r46 ∧
 (r46 = true →
 CallV Tryz.prog 63 #[r27.val, r30.val] V32 fun v V33 => ∃ r47 : Bool, v = .bool r47 ∧
 R (.bool r47) V33) ∧
 (r46 = false →
 R (.bool false) V32)) ∧
 (r45 = false →
 R (.bool false) V31)) ∧
 (r42 = false →
 R (.bool false) V28)) ∧
 (r39 = false →
 R (.bool false) V25)) ∧
 (r36 = false →
 R (.bool false) V22)) ∧
 (r33 = false →
 R (.bool false) V19)) ∧
 (r32 = false →
 R (.bool false) V18)))) ∧
 (((r18 : Int) == 0) = false →
 CallV Tryz.prog 61 #[r2.val] V10 fun v V34 => ∃ (r48 : BoxV) (r49 : Bool), v = .tuple #[r48.val, .bool r49] ∧
 CallV Tryz.prog 61 #[r8.val] V34 fun v V35 => ∃ (r50 : BoxV) (r51 : Bool), v = .tuple #[r50.val, .bool r51] ∧
 CallV Tryz.prog 43 #[r8.val] V35 fun v V36 => ∃ r52 : SpV, v = r52.val ∧
 CallV Tryz.prog 67 #[r52.val] V36 fun v V37 => ∃ (r53 : SpV) (r54 : Int), v = .tuple #[r53.val, .int .i64 r54] ∧
 CallV Tryz.prog 43 #[r2.val] V37 fun v V38 => ∃ r55 : SpV, v = r55.val ∧
 CallV Tryz.prog 67 #[r55.val] V38 fun v V39 => ∃ (r56 : SpV) (r57 : Int), v = .tuple #[r56.val, .int .i64 r57] ∧
 CallV Tryz.prog 51 #[r8.val, r2.val] V39 fun v V40 => ∃ r58 : Bool, v = .bool r58 ∧
 (r58 = true →
 CallV Tryz.prog 51 #[r10.val, r5.val] V40 fun v V41 => ∃ r59 : Bool, v = .bool r59 ∧
 (r59 = true →
 CallV Tryz.prog 18 #[r8.val, r10.val] V41 fun v V42 => ∃ r60 : BoxV, v = r60.val ∧
 CallV Tryz.prog 18 #[r2.val, r5.val] V42 fun v V43 => ∃ r61 : BoxV, v = r61.val ∧
 CallV Tryz.prog 51 #[r60.val, r61.val] V43 fun v V44 => ∃ r62 : Bool, v = .bool r62 ∧
 (r62 = true →
 CallV Tryz.prog 20 #[r8.val, r10.val] V44 fun v V45 => ∃ r63 : BoxV, v = r63.val ∧
 CallV Tryz.prog 20 #[r2.val, r5.val] V45 fun v V46 => ∃ r64 : BoxV, v = r64.val ∧
 CallV Tryz.prog 51 #[r63.val, r64.val] V46 fun v V47 => ∃ r65 : Bool, v = .bool r65 ∧
 (r65 = true →
 CallV Tryz.prog 41 #[r8.val, r10.val] V47 fun v V48 => ∃ r66 : BoxV, v = r66.val ∧
 CallV Tryz.prog 41 #[r2.val, r5.val] V48 fun v V49 => ∃ r67 : BoxV, v = r67.val ∧
 CallV Tryz.prog 51 #[r66.val, r67.val] V49 fun v V50 => ∃ r68 : Bool, v = .bool r68 ∧
 (r68 = true →
 CallV Tryz.prog 43 #[r8.val] V50 fun v V51 => ∃ r69 : SpV, v = r69.val ∧
 CallV Tryz.prog 43 #[r2.val] V51 fun v V52 => ∃ r70 : SpV, v = r70.val ∧
 CallV Tryz.prog 63 #[r69.val, r70.val] V52 fun v V53 => ∃ r71 : Bool, v = .bool r71 ∧
 (r71 = true →
 CallV Tryz.prog 51 #[r50.val, r48.val] V53 fun v V54 => ∃ r72 : Bool, v = .bool r72 ∧
 (r72 = true →
 CallV Tryz.prog 63 #[r53.val, r56.val] V54 fun v V55 => ∃ r73 : Bool, v = .bool r73 ∧
 R (.bool r73) V55) ∧
 (r72 = false →
 R (.bool false) V54)) ∧
 (r71 = false →
 R (.bool false) V53)) ∧
 (r68 = false →
 R (.bool false) V50)) ∧
 (r65 = false →
 R (.bool false) V47)) ∧
 (r62 = false →
 R (.bool false) V44)) ∧
 (r59 = false →
 R (.bool false) V41)) ∧
 (r58 = false →
 R (.bool false) V40))))) ∧
 (((r13 : Int) == 0) = false →
 CallV Tryz.prog 28 #[r2.val, r5.val] V7 fun v V56 => ∃ (r74 : BoxV) (r75 : Int), v = .tuple #[r74.val, .int .i64 r75] ∧
 CallV Tryz.prog 28 #[r8.val, r10.val] V56 fun v V57 => ∃ (r76 : BoxV) (r77 : Int), v = .tuple #[r76.val, .int .i64 r77] ∧
 (((r75 : Int) == 0) = true →
 (((r77 : Int) != 0) = true →
 R (.bool false) V57) ∧
 (((r77 : Int) != 0) = false →
 CallV Tryz.prog 51 #[r76.val, r74.val] V57 fun v V58 => ∃ r78 : Bool, v = .bool r78 ∧
 ((!r78) = true →
 R (.bool false) V58) ∧
 ((!r78) = false →
 CallV Tryz.prog 61 #[r2.val] V58 fun v V59 => ∃ (r79 : BoxV) (r80 : Bool), v = .tuple #[r79.val, .bool r80] ∧
 CallV Tryz.prog 61 #[r8.val] V59 fun v V60 => ∃ (r81 : BoxV) (r82 : Bool), v = .tuple #[r81.val, .bool r82] ∧
 CallV Tryz.prog 43 #[r8.val] V60 fun v V61 => ∃ r83 : SpV, v = r83.val ∧
 CallV Tryz.prog 67 #[r83.val] V61 fun v V62 => ∃ (r84 : SpV) (r85 : Int), v = .tuple #[r84.val, .int .i64 r85] ∧
 CallV Tryz.prog 43 #[r2.val] V62 fun v V63 => ∃ r86 : SpV, v = r86.val ∧
 CallV Tryz.prog 67 #[r86.val] V63 fun v V64 => ∃ (r87 : SpV) (r88 : Int), v = .tuple #[r87.val, .int .i64 r88] ∧
 CallV Tryz.prog 51 #[r8.val, r2.val] V64 fun v V65 => ∃ r89 : Bool, v = .bool r89 ∧
 (r89 = true →
 CallV Tryz.prog 51 #[r10.val, r5.val] V65 fun v V66 => ∃ r90 : Bool, v = .bool r90 ∧
 (r90 = true →
 CallV Tryz.prog 18 #[r8.val, r10.val] V66 fun v V67 => ∃ r91 : BoxV, v = r91.val ∧
 CallV Tryz.prog 18 #[r2.val, r5.val] V67 fun v V68 => ∃ r92 : BoxV, v = r92.val ∧
 CallV Tryz.prog 51 #[r91.val, r92.val] V68 fun v V69 => ∃ r93 : Bool, v = .bool r93 ∧
 (r93 = true →
 CallV Tryz.prog 20 #[r8.val, r10.val] V69 fun v V70 => ∃ r94 : BoxV, v = r94.val ∧
 CallV Tryz.prog 20 #[r2.val, r5.val] V70 fun v V71 => ∃ r95 : BoxV, v = r95.val ∧
 CallV Tryz.prog 51 #[r94.val, r95.val] V71 fun v V72 => ∃ r96 : Bool, v = .bool r96 ∧
 (r96 = true →
 CallV Tryz.prog 41 #[r8.val, r10.val] V72 fun v V73 => ∃ r97 : BoxV, v = r97.val ∧
 CallV Tryz.prog 41 #[r2.val, r5.val] V73 fun v V74 => ∃ r98 : BoxV, v = r98.val ∧
 CallV Tryz.prog 51 #[r97.val, r98.val] V74 fun v V75 => ∃ r99 : Bool, v = .bool r99 ∧
 (r99 = true →
 CallV Tryz.prog 43 #[r8.val] V75 fun v V76 => ∃ r100 : SpV, v = r100.val ∧
 CallV Tryz.prog 43 #[r2.val] V76 fun v V77 => ∃ r101 : SpV, v = r101.val ∧
 CallV Tryz.prog 63 #[r100.val, r101.val] V77 fun v V78 => ∃ r102 : Bool, v = .bool r102 ∧
 (r102 = true →
 CallV Tryz.prog 51 #[r81.val, r79.val] V78 fun v V79 => ∃ r103 : Bool, v = .bool r103 ∧
 (r103 = true →
 CallV Tryz.prog 63 #[r84.val, r87.val] V79 fun v V80 => ∃ r104 : Bool, v = .bool r104 ∧
 R (.bool r104) V80) ∧
 (r103 = false →
 R (.bool false) V79)) ∧
 (r102 = false →
 R (.bool false) V78)) ∧
 (r99 = false →
 R (.bool false) V75)) ∧
 (r96 = false →
 R (.bool false) V72)) ∧
 (r93 = false →
 R (.bool false) V69)) ∧
 (r90 = false →
 R (.bool false) V66)) ∧
 (r89 = false →
 R (.bool false) V65)))) ∧
 (((r75 : Int) == 0) = false →
 CallV Tryz.prog 61 #[r2.val] V57 fun v V81 => ∃ (r105 : BoxV) (r106 : Bool), v = .tuple #[r105.val, .bool r106] ∧
 CallV Tryz.prog 61 #[r8.val] V81 fun v V82 => ∃ (r107 : BoxV) (r108 : Bool), v = .tuple #[r107.val, .bool r108] ∧
 CallV Tryz.prog 43 #[r8.val] V82 fun v V83 => ∃ r109 : SpV, v = r109.val ∧
 CallV Tryz.prog 67 #[r109.val] V83 fun v V84 => ∃ (r110 : SpV) (r111 : Int), v = .tuple #[r110.val, .int .i64 r111] ∧
 CallV Tryz.prog 43 #[r2.val] V84 fun v V85 => ∃ r112 : SpV, v = r112.val ∧
 CallV Tryz.prog 67 #[r112.val] V85 fun v V86 => ∃ (r113 : SpV) (r114 : Int), v = .tuple #[r113.val, .int .i64 r114] ∧
 CallV Tryz.prog 51 #[r8.val, r2.val] V86 fun v V87 => ∃ r115 : Bool, v = .bool r115 ∧
 (r115 = true →
 CallV Tryz.prog 51 #[r10.val, r5.val] V87 fun v V88 => ∃ r116 : Bool, v = .bool r116 ∧
 (r116 = true →
 CallV Tryz.prog 18 #[r8.val, r10.val] V88 fun v V89 => ∃ r117 : BoxV, v = r117.val ∧
 CallV Tryz.prog 18 #[r2.val, r5.val] V89 fun v V90 => ∃ r118 : BoxV, v = r118.val ∧
 CallV Tryz.prog 51 #[r117.val, r118.val] V90 fun v V91 => ∃ r119 : Bool, v = .bool r119 ∧
 (r119 = true →
 CallV Tryz.prog 20 #[r8.val, r10.val] V91 fun v V92 => ∃ r120 : BoxV, v = r120.val ∧
 CallV Tryz.prog 20 #[r2.val, r5.val] V92 fun v V93 => ∃ r121 : BoxV, v = r121.val ∧
 CallV Tryz.prog 51 #[r120.val, r121.val] V93 fun v V94 => ∃ r122 : Bool, v = .bool r122 ∧
 (r122 = true →
 CallV Tryz.prog 41 #[r8.val, r10.val] V94 fun v V95 => ∃ r123 : BoxV, v = r123.val ∧
 CallV Tryz.prog 41 #[r2.val, r5.val] V95 fun v V96 => ∃ r124 : BoxV, v = r124.val ∧
 CallV Tryz.prog 51 #[r123.val, r124.val] V96 fun v V97 => ∃ r125 : Bool, v = .bool r125 ∧
 (r125 = true →
 CallV Tryz.prog 43 #[r8.val] V97 fun v V98 => ∃ r126 : SpV, v = r126.val ∧
 CallV Tryz.prog 43 #[r2.val] V98 fun v V99 => ∃ r127 : SpV, v = r127.val ∧
 CallV Tryz.prog 63 #[r126.val, r127.val] V99 fun v V100 => ∃ r128 : Bool, v = .bool r128 ∧
 (r128 = true →
 CallV Tryz.prog 51 #[r107.val, r105.val] V100 fun v V101 => ∃ r129 : Bool, v = .bool r129 ∧
 (r129 = true →
 CallV Tryz.prog 63 #[r110.val, r113.val] V101 fun v V102 => ∃ r130 : Bool, v = .bool r130 ∧
 R (.bool r130) V102) ∧
 (r129 = false →
 R (.bool false) V101)) ∧
 (r128 = false →
 R (.bool false) V100)) ∧
 (r125 = false →
 R (.bool false) V97)) ∧
 (r122 = false →
 R (.bool false) V94)) ∧
 (r119 = false →
 R (.bool false) V91)) ∧
 (r116 = false →
 R (.bool false) V88)) ∧
 (r115 = false →
 R (.bool false) V87))))))))) :
 CallV Tryz.prog 12 #[p0.val, p1.val, p2.val] V R :=
 calls_of_vc (Shp := Shp) hmixed Tryz.func12 (c := Tryz.f12.body.getD .skip) (args := [p0.val, p1.val, p2.val]) (by kernel_rfl)
 (.seq (.reg [A 3 3, A 4 3, A 5 3, A 6 9]) (.seq (.seq (.reg [A 31 10, A 32 20]) (.cond (.seq (.reg [A 6 9]) .leaf) .leaf)) (.seq (.reg [A 3 4, A 35 10, A 33 2, A 36 0, A 37 0, A 38 0, A 7 3, A 8 3, A 7 6, A 8 6, A 9 2]) (.seq (.reg [A 4 4, A 41 10, A 39 2, A 42 0, A 43 0, A 44 0, A 10 3, A 11 3, A 10 6, A 11 6, A 12 2]) (.seq (.seq (.reg [A 45 2, A 46 20, ⟨47, 2, true⟩, A 48 2, A 49 20, A 50 20]) (.cond (.seq (.reg [A 6 9]) .leaf) .leaf)) (.seq (.reg [A 8 4, A 53 7, A 5 4, A 55 7, A 5 4, A 57 10, A 51 2, A 58 0, A 59 0, A 13 3, A 13 6, A 14 2]) (.seq (.reg [A 11 4, A 62 7, A 5 4, A 64 7, A 5 4, A 66 10, A 60 2, A 67 0, A 68 0, A 15 3, A 15 6, A 16 2]) (.seq (.seq (.reg [A 69 2, A 70 20, ⟨71, 2, true⟩, A 72 2, A 73 20, A 74 20]) (.cond (.seq (.reg [A 6 9]) .leaf) .leaf)) (.seq (.reg [A 7 4, A 77 10, A 75 2, A 78 0, A 79 0, A 17 3, A 17 6, A 18 2]) (.seq (.reg [A 13 4, A 82 10, A 80 2, A 83 0, A 84 0, A 19 3, A 19 6, A 20 2]) (.seq (.seq (.reg [A 85 2, A 86 0, ⟨87, 2, true⟩, A 88 2, A 89 0, ⟨90, 2, true⟩, A 19 4, A 17 4, A 93 10, A 94 20, A 95 20, A 96 20]) (.cond (.seq (.reg [A 6 9]) .leaf) .leaf)) (.seq (.reg [A 7 4, A 10 4, A 100 10, A 97 2, A 101 0, A 102 0, A 21 3, A 21 6, A 18 2]) (.seq (.reg [A 13 4, A 15 4, A 106 10, A 103 2, A 107 0, A 108 0, A 22 3, A 22 6, A 20 2]) (.seq (.seq (.reg [A 109 2, A 110 0, ⟨111, 2, true⟩, A 112 2, A 113 0, ⟨114, 2, true⟩, A 22 4, A 21 4, A 117 10, A 118 20, A 119 20, A 120 20]) (.cond (.seq (.reg [A 6 9]) .leaf) .leaf)) (.seq (.reg [A 7 4, A 123 10, A 121 2, A 124 0, A 125 0, A 23 3, A 23 6, A 24 2]) (.seq (.reg [A 13 4, A 128 10, A 126 2, A 129 0, A 130 0, A 25 3, A 25 6, A 26 2]) (.seq (.reg [A 13 4, A 133 10, A 134 10, A 131 2, A 135 0, A 136 0, A 27 3, A 27 6, A 28 2]) (.seq (.reg [A 7 4, A 139 10, A 140 10, A 137 2, A 141 0, A 142 0, A 29 3, A 29 6, A 30 2]) (.seq (.draw [(0, A 13 4), (1, A 7 4), (2, A 145 10), (3, ⟨146, 2, true⟩), (4, A 15 4), (5, A 10 4), (6, A 149 10), (7, A 150 20), (8, ⟨151, 2, true⟩), (9, A 13 4), (10, A 15 4), (12, A 7 4), (13, A 10 4), (11, A 154 10), (14, A 157 10), (15, A 158 10), (16, A 159 20), (17, ⟨160, 2, true⟩), (18, A 13 4), (19, A 15 4), (21, A 7 4), (22, A 10 4), (20, A 163 10), (23, A 166 10), (24, A 167 10), (25, A 168 20), (26, ⟨169, 2, true⟩), (27, A 13 4), (28, A 15 4), (30, A 7 4), (31, A 10 4), (29, A 172 10), (32, A 175 10), (33, A 176 10), (34, A 177 20), (35, ⟨178, 2, true⟩), (36, A 13 4), (38, A 7 4), (37, A 180 10), (39, A 182 10), (40, A 183 10), (41, A 184 20), (42, ⟨185, 2, true⟩), (43, A 25 4), (44, A 23 4), (45, A 188 10), (46, A 189 20), (47, ⟨190, 2, true⟩), (48, A 27 4), (49, A 29 4), (50, A 193 10), (51, A 194 20), (52, A 6 2)] [0, 0, 3, 7, 15, 15, 63, 127, 255, 511, 511, 2047, 511, 511, 16383, 32767, 65535, 131071, 262143, 262143, 1048575, 262143, 262143, 8388607, 16777215, 33554431, 67108863, 134217727, 134217727, 536870911, 134217727, 134217727, 4294967295, 8589934591, 17179869183, 34359738367, 68719476735, 137438953471, 68719476735, 549755813887, 1099511627775, 2199023255551, 4398046511103, 8796093022207, 8796093022207, 35184372088831, 70368744177663, 140737488355327, 281474976710655, 281474976710655, 1125899906842623, 2251799813685247, 4503599627370495]) .leaf)))))))))))))))))))
 (Eq.mpr (by kernel_rfl) h)

end Go.Proofs.YtkibfmnkkiakoaaGreat
