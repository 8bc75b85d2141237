/- Part of the proof; it has the parts GSc2. -/
import Derived.Test.YtefkpimcffofaaaGreatGSc1
set_option maxRecDepth 100000
set_option maxHeartbeats 4000000
namespace Go.Proofs.YtefkpimcffofaaaGreat
open Go Go.Vc Go.Proofs
open Go.IntKind (i8 i16 i32 i64 u8 u16 u32 u64)

theorem scan_Skew_vc (p0 : FrameV) (V : View) (R : Value → View → Prop) 
 (h :
 CallV Tryz.prog 191 #[p0.val] V fun v V1 => ∃ r1 : Bool, v = .bool r1 ∧
 ((!r1) = true →
 R (.tuple #[(NumV.mk (WhV.mk false (Sl.mk none 0 0)) (WhV.mk false (Sl.mk none 0 0)) (Sl.mk none 0 0)).val, .int .i64 1]) V1) ∧
 ((!r1) = false →
 CallV Tryz.prog 194 #[p0.u.val, p0.v.val] V1 fun v V2 => ∃ r2 : NumV, v = r2.val ∧
 R (.tuple #[r2.val, .int .i64 0]) V2)) :
 CallV Tryz.prog 86 #[p0.val] V R :=
 calls_of_vc (Shp := Shp) hmixed Tryz.func86 (c := Tryz.f86.body.getD .skip) (args := [p0.val]) (by kernel_rfl)
 (.seq (.reg [A 1 3, A 2 3, A 3 2]) (.seq (.seq (.reg [A 1 4, A 5 10, A 6 20]) (.cond (.seq (.reg [A 7 0, A 2 6, A 3 2]) .leaf) .leaf)) (.seq (.reg [A 8 7, A 1 4, A 10 7, A 1 4, A 12 10, A 2 6, A 3 2]) .leaf)))
 (Eq.mpr (by kernel_rfl) h)

theorem scan_Straight_vc (p0 : FrameV) (V : View) (R : Value → View → Prop) 
 (h :
 CallV Tryz.prog 191 #[p0.val] V fun v V1 => ∃ r1 : Bool, v = .bool r1 ∧
 ((!r1) = true →
 R (.tuple #[(FrameV.mk (SpotV.mk (NumV.mk (WhV.mk false (Sl.mk none 0 0)) (WhV.mk false (Sl.mk none 0 0)) (Sl.mk none 0 0)) (NumV.mk (WhV.mk false (Sl.mk none 0 0)) (WhV.mk false (Sl.mk none 0 0)) (Sl.mk none 0 0)) (NumV.mk (WhV.mk false (Sl.mk none 0 0)) (WhV.mk false (Sl.mk none 0 0)) (Sl.mk none 0 0))) (SpotV.mk (NumV.mk (WhV.mk false (Sl.mk none 0 0)) (WhV.mk false (Sl.mk none 0 0)) (Sl.mk none 0 0)) (NumV.mk (WhV.mk false (Sl.mk none 0 0)) (WhV.mk false (Sl.mk none 0 0)) (Sl.mk none 0 0)) (NumV.mk (WhV.mk false (Sl.mk none 0 0)) (WhV.mk false (Sl.mk none 0 0)) (Sl.mk none 0 0))) (SpotV.mk (NumV.mk (WhV.mk false (Sl.mk none 0 0)) (WhV.mk false (Sl.mk none 0 0)) (Sl.mk none 0 0)) (NumV.mk (WhV.mk false (Sl.mk none 0 0)) (WhV.mk false (Sl.mk none 0 0)) (Sl.mk none 0 0)) (NumV.mk (WhV.mk false (Sl.mk none 0 0)) (WhV.mk false (Sl.mk none 0 0)) (Sl.mk none 0 0)))).val, .int .i64 1]) V1) ∧
 ((!r1) = false →
 CallV Tryz.prog 194 #[p0.u.val, p0.v.val] V1 fun v V2 => ∃ r2 : NumV, v = r2.val ∧
 CallV Tryz.prog 194 #[p0.u.val, p0.u.val] V2 fun v V3 => ∃ r3 : NumV, v = r3.val ∧
 CallV Tryz.prog 201 #[r2.val, r3.val] V3 fun v V4 => ∃ (r4 : NumV) (r5 : Int), v = .tuple #[r4.val, .int .i64 r5] ∧
 (((r5 : Int) != 0) = true →
 R (.tuple #[(FrameV.mk (SpotV.mk (NumV.mk (WhV.mk false (Sl.mk none 0 0)) (WhV.mk false (Sl.mk none 0 0)) (Sl.mk none 0 0)) (NumV.mk (WhV.mk false (Sl.mk none 0 0)) (WhV.mk false (Sl.mk none 0 0)) (Sl.mk none 0 0)) (NumV.mk (WhV.mk false (Sl.mk none 0 0)) (WhV.mk false (Sl.mk none 0 0)) (Sl.mk none 0 0))) (SpotV.mk (NumV.mk (WhV.mk false (Sl.mk none 0 0)) (WhV.mk false (Sl.mk none 0 0)) (Sl.mk none 0 0)) (NumV.mk (WhV.mk false (Sl.mk none 0 0)) (WhV.mk false (Sl.mk none 0 0)) (Sl.mk none 0 0)) (NumV.mk (WhV.mk false (Sl.mk none 0 0)) (WhV.mk false (Sl.mk none 0 0)) (Sl.mk none 0 0))) (SpotV.mk (NumV.mk (WhV.mk false (Sl.mk none 0 0)) (WhV.mk false (Sl.mk none 0 0)) (Sl.mk none 0 0)) (NumV.mk (WhV.mk false (Sl.mk none 0 0)) (WhV.mk false (Sl.mk none 0 0)) (Sl.mk none 0 0)) (NumV.mk (WhV.mk false (Sl.mk none 0 0)) (WhV.mk false (Sl.mk none 0 0)) (Sl.mk none 0 0)))).val, .int .i64 3]) V4) ∧
 (((r5 : Int) != 0) = false →
 CallV Tryz.prog 109 #[r4.val] V4 fun v V5 => ∃ r6 : NumV, v = r6.val ∧
 CallV Tryz.prog 202 #[p0.v.val, r6.val, p0.u.val] V5 fun v V6 => ∃ r7 : SpotV, v = r7.val ∧
 R (.tuple #[(FrameV.mk p0.o p0.u r7).val, .int .i64 0]) V6))) :
 CallV Tryz.prog 88 #[p0.val] V R :=
 calls_of_vc (Shp := Shp) hmixed Tryz.func88 (c := Tryz.f88.body.getD .skip) (args := [p0.val]) (by kernel_rfl)
 (.seq (.reg [A 1 3, A 2 3, A 3 2]) (.seq (.seq (.reg [A 1 4, A 7 10, A 8 20]) (.cond (.seq (.reg [A 9 0, A 2 6, A 3 2]) .leaf) .leaf)) (.seq (.draw [(0, A 11 7), (1, A 1 4), (2, A 13 7), (3, A 1 4), (5, A 16 7), (6, A 1 4), (7, A 18 7), (8, A 1 4), (14, A 4 3), (4, A 15 10), (9, A 20 10), (10, A 21 10), (11, A 10 2), (12, A 22 0), (13, A 23 0), (15, A 4 6), (16, A 5 2)] [0, 1, 0, 4, 15, 0, 32, 0, 128, 511, 1023, 2047, 4095, 4095, 0, 24575, 65535]) (.seq (.seq (.reg [A 24 2, A 25 0]) (.cond (.seq (.reg [A 26 0, A 2 6, A 3 2]) .leaf) .leaf)) (.seq (.draw [(0, A 27 7), (1, A 1 4), (2, A 29 7), (3, A 1 4), (4, A 31 7), (5, A 1 4), (6, A 4 4), (8, A 35 7), (9, A 1 4), (7, A 34 10), (10, A 37 10), (11, A 38 0), (12, A 2 6), (13, A 3 2)] [0, 1, 0, 4, 0, 16, 0, 64, 0, 256, 1008, 2047, 4095, 8191]) .leaf)))))
 (Eq.mpr (by kernel_rfl) h)

theorem scan_Place_vc (p0 : FrameV) (p1 : NumV) (p2 : NumV) (V : View) (R : Value → View → Prop) 
 (h :
 CallV Tryz.prog 191 #[p0.val] V fun v V1 => ∃ r1 : Bool, v = .bool r1 ∧
 ((!r1) = true →
 R (.tuple #[(SpotV.mk (NumV.mk (WhV.mk false (Sl.mk none 0 0)) (WhV.mk false (Sl.mk none 0 0)) (Sl.mk none 0 0)) (NumV.mk (WhV.mk false (Sl.mk none 0 0)) (WhV.mk false (Sl.mk none 0 0)) (Sl.mk none 0 0)) (NumV.mk (WhV.mk false (Sl.mk none 0 0)) (WhV.mk false (Sl.mk none 0 0)) (Sl.mk none 0 0))).val, .int .i64 1]) V1) ∧
 ((!r1) = false →
 CallV Tryz.prog 167 #[p1.val] V1 fun v V2 => ∃ r2 : Bool, v = .bool r2 ∧
 ((!r2) = true →
 R (.tuple #[(SpotV.mk (NumV.mk (WhV.mk false (Sl.mk none 0 0)) (WhV.mk false (Sl.mk none 0 0)) (Sl.mk none 0 0)) (NumV.mk (WhV.mk false (Sl.mk none 0 0)) (WhV.mk false (Sl.mk none 0 0)) (Sl.mk none 0 0)) (NumV.mk (WhV.mk false (Sl.mk none 0 0)) (WhV.mk false (Sl.mk none 0 0)) (Sl.mk none 0 0))).val, .int .i64 1]) V2) ∧
 ((!r2) = false →
 CallV Tryz.prog 167 #[p2.val] V2 fun v V3 => ∃ r3 : Bool, v = .bool r3 ∧
 ((!r3) = true →
 R (.tuple #[(SpotV.mk (NumV.mk (WhV.mk false (Sl.mk none 0 0)) (WhV.mk false (Sl.mk none 0 0)) (Sl.mk none 0 0)) (NumV.mk (WhV.mk false (Sl.mk none 0 0)) (WhV.mk false (Sl.mk none 0 0)) (Sl.mk none 0 0)) (NumV.mk (WhV.mk false (Sl.mk none 0 0)) (WhV.mk false (Sl.mk none 0 0)) (Sl.mk none 0 0))).val, .int .i64 1]) V3) ∧
 ((!r3) = false →
 CallV Tryz.prog 193 #[p0.val, p1.val, p2.val] V3 fun v V4 => ∃ r4 : SpotV, v = r4.val ∧
 R (.tuple #[r4.val, .int .i64 0]) V4)))) :
 CallV Tryz.prog 81 #[p0.val, p1.val, p2.val] V R :=
 calls_of_vc (Shp := Shp) hmixed Tryz.func81 (c := Tryz.f81.body.getD .skip) (args := [p0.val, p1.val, p2.val]) (by kernel_rfl)
 (.seq (.reg [A 3 3, A 4 3, A 5 3, A 6 3, A 7 2]) (.seq (.seq (.reg [A 3 4, A 9 10, A 10 20, ⟨11, 2, true⟩, A 4 4, A 13 10, A 14 20, A 15 20, ⟨16, 2, true⟩, A 5 4, A 18 10, A 19 20, A 20 20]) (.cond (.seq (.reg [A 21 0, A 6 6, A 7 2]) .leaf) .leaf)) (.seq (.reg [A 3 4, A 4 4, A 5 4, A 25 10, A 6 6, A 7 2]) .leaf)))
 (Eq.mpr (by kernel_rfl) h)

theorem scan_Position_vc (p0 : FrameV) (p1 : SpotV) (V : View) (R : Value → View → Prop) 
 (h :
 CallV Tryz.prog 191 #[p0.val] V fun v V1 => ∃ r1 : Bool, v = .bool r1 ∧
 ((!r1) = true →
 R (.tuple #[(NumV.mk (WhV.mk false (Sl.mk none 0 0)) (WhV.mk false (Sl.mk none 0 0)) (Sl.mk none 0 0)).val, (NumV.mk (WhV.mk false (Sl.mk none 0 0)) (WhV.mk false (Sl.mk none 0 0)) (Sl.mk none 0 0)).val, (NumV.mk (WhV.mk false (Sl.mk none 0 0)) (WhV.mk false (Sl.mk none 0 0)) (Sl.mk none 0 0)).val, .int .i64 1]) V1) ∧
 ((!r1) = false →
 ∀ (b1 : Nat) (V2 : View), View.le V1 V2 → View.Fin V2 → V2 b1 = some #[.bool p1.x.re.neg, p1.x.re.mag.v, .bool p1.x.im.neg, p1.x.im.mag.v, p1.x.under.v, .bool p1.y.re.neg, p1.y.re.mag.v, .bool p1.y.im.neg, p1.y.im.mag.v, p1.y.under.v, .bool p1.z.re.neg, p1.z.re.mag.v, .bool p1.z.im.neg, p1.z.im.mag.v, p1.z.under.v] →
 CallV Tryz.prog 181 #[(Sl.mk (some (Addr.mk b1 0 none)) 1 1).v] V2 fun v V3 => ∃ r2 : Bool, v = .bool r2 ∧
 ((!r2) = true →
 R (.tuple #[(NumV.mk (WhV.mk false (Sl.mk none 0 0)) (WhV.mk false (Sl.mk none 0 0)) (Sl.mk none 0 0)).val, (NumV.mk (WhV.mk false (Sl.mk none 0 0)) (WhV.mk false (Sl.mk none 0 0)) (Sl.mk none 0 0)).val, (NumV.mk (WhV.mk false (Sl.mk none 0 0)) (WhV.mk false (Sl.mk none 0 0)) (Sl.mk none 0 0)).val, .int .i64 1]) V3) ∧
 ((!r2) = false →
 CallV Tryz.prog 192 #[p1.val, p0.o.val] V3 fun v V4 => ∃ r3 : SpotV, v = r3.val ∧
 CallV Tryz.prog 194 #[p0.u.val, p0.u.val] V4 fun v V5 => ∃ r4 : NumV, v = r4.val ∧
 CallV Tryz.prog 194 #[p0.u.val, p0.v.val] V5 fun v V6 => ∃ r5 : NumV, v = r5.val ∧
 CallV Tryz.prog 194 #[p0.u.val, p0.v.val] V6 fun v V7 => ∃ r6 : NumV, v = r6.val ∧
 CallV Tryz.prog 194 #[p0.v.val, p0.v.val] V7 fun v V8 => ∃ r7 : NumV, v = r7.val ∧
 CallV Tryz.prog 194 #[p0.u.val, r3.val] V8 fun v V9 => ∃ r8 : NumV, v = r8.val ∧
 CallV Tryz.prog 194 #[p0.v.val, r3.val] V9 fun v V10 => ∃ r9 : NumV, v = r9.val ∧
 ∀ (b2 : Nat) (V11 : View), View.le V10 V11 → View.Fin V11 → V11 b2 = some #[.bool r4.re.neg, r4.re.mag.v, .bool r4.im.neg, r4.im.mag.v, r4.under.v, .bool r5.re.neg, r5.re.mag.v, .bool r5.im.neg, r5.im.mag.v, r5.under.v] →
 ∀ (b3 : Nat) (V12 : View), View.le V11 V12 → View.Fin V12 → V12 b3 = some #[.bool r6.re.neg, r6.re.mag.v, .bool r6.im.neg, r6.im.mag.v, r6.under.v, .bool r7.re.neg, r7.re.mag.v, .bool r7.im.neg, r7.im.mag.v, r7.under.v] →
 ∀ (b4 : Nat) (V13 : View), View.le V12 V13 → View.Fin V13 → V13 b4 = some #[.slice (some (Addr.mk b2 0 none)) 2 2, .slice (some (Addr.mk b3 0 none)) 2 2] →
 ∀ (b5 : Nat) (V14 : View), View.le V13 V14 → View.Fin V14 → V14 b5 = some #[.bool r8.re.neg, r8.re.mag.v, .bool r8.im.neg, r8.im.mag.v, r8.under.v, .bool r9.re.neg, r9.re.mag.v, .bool r9.im.neg, r9.im.mag.v, r9.under.v] →
 CallV Tryz.prog 26 #[(Sl.mk (some (Addr.mk b4 0 none)) 2 2).v, (Sl.mk (some (Addr.mk b5 0 none)) 2 2).v] V14 fun v V15 => ∃ (r10 : Sl) (r11 : Int), v = .tuple #[r10.v, .int .i64 r11] ∧
 (((r11 : Int) != 0) = true →
 R (.tuple #[(NumV.mk (WhV.mk false (Sl.mk none 0 0)) (WhV.mk false (Sl.mk none 0 0)) (Sl.mk none 0 0)).val, (NumV.mk (WhV.mk false (Sl.mk none 0 0)) (WhV.mk false (Sl.mk none 0 0)) (Sl.mk none 0 0)).val, (NumV.mk (WhV.mk false (Sl.mk none 0 0)) (WhV.mk false (Sl.mk none 0 0)) (Sl.mk none 0 0)).val, .int .i64 6]) V15) ∧
 (((r11 : Int) != 0) = false →
 ((0 : Int) ≤ 0 ∧ (0 : Int) < (r10.len : Nat) ∧ Option.isSome r10.a = true) ∧
 ∃ x1 : NumV, View.has V15 (Option.map (fun q => Addr.add q (Int.toNat 0 * 5)) r10.a) (x1.val).cells.toList ∧ Option.isSome (Option.map (fun q => Addr.add q (Int.toNat 0 * 5)) r10.a) = true ∧
 ((0 : Int) ≤ 1 ∧ (1 : Int) < (r10.len : Nat) ∧ Option.isSome r10.a = true) ∧
 ∃ x2 : NumV, View.has V15 (Option.map (fun q => Addr.add q (Int.toNat 1 * 5)) r10.a) (x2.val).cells.toList ∧ Option.isSome (Option.map (fun q => Addr.add q (Int.toNat 1 * 5)) r10.a) = true ∧
 CallV Tryz.prog 193 #[p0.val, x1.val, x2.val] V15 fun v V16 => ∃ r12 : SpotV, v = r12.val ∧
 CallV Tryz.prog 192 #[p1.val, r12.val] V16 fun v V17 => ∃ r13 : SpotV, v = r13.val ∧
 ((0 : Int) ≤ 0 ∧ (0 : Int) < (r10.len : Nat) ∧ Option.isSome r10.a = true) ∧
 ∃ x3 : NumV, View.has V17 (Option.map (fun q => Addr.add q (Int.toNat 0 * 5)) r10.a) (x3.val).cells.toList ∧ Option.isSome (Option.map (fun q => Addr.add q (Int.toNat 0 * 5)) r10.a) = true ∧
 ((0 : Int) ≤ 1 ∧ (1 : Int) < (r10.len : Nat) ∧ Option.isSome r10.a = true) ∧
 ∃ x4 : NumV, View.has V17 (Option.map (fun q => Addr.add q (Int.toNat 1 * 5)) r10.a) (x4.val).cells.toList ∧ Option.isSome (Option.map (fun q => Addr.add q (Int.toNat 1 * 5)) r10.a) = true ∧
 CallV Tryz.prog 194 #[r13.val, r13.val] V17 fun v V18 => ∃ r14 : NumV, v = r14.val ∧
 R (.tuple #[x3.val, x4.val, r14.val, .int .i64 0]) V18)))) :
 CallV Tryz.prog 92 #[p0.val, p1.val] V R :=
 calls_of_vc (Shp := Shp) hmixed Tryz.func92 (c := Tryz.f92.body.getD .skip) (args := [p0.val, p1.val]) (by kernel_rfl)
 (.seq (.reg [A 2 3, A 3 3, A 4 3, A 5 3, A 6 3, A 7 2]) (.seq (.seq (.reg [A 2 4, A 12 10, A 13 20, ⟨14, 2, true⟩, A 3 4, A 16 11, A 17 10, A 18 20, A 19 20]) (.cond (.seq (.draw [(0, A 4 4), (1, A 5 4), (2, A 6 4), (3, A 4 6), (4, A 5 6), (5, A 6 6), (6, A 7 2)] [0, 0, 0, 1, 11, 31, 63]) .leaf) .leaf)) (.seq (.reg [A 3 4, A 24 7, A 2 4, A 26 10, A 8 3, A 8 6]) (.seq (.draw [(0, A 28 7), (1, A 2 4), (2, A 30 7), (3, A 2 4), (5, A 33 7), (6, A 2 4), (7, A 35 7), (8, A 2 4), (11, A 39 7), (12, A 2 4), (13, A 41 7), (14, A 2 4), (16, A 44 7), (17, A 2 4), (18, A 46 7), (19, A 2 4), (23, A 51 7), (24, A 2 4), (25, A 8 4), (27, A 55 7), (28, A 2 4), (29, A 8 4), (4, A 32 10), (9, A 37 10), (15, A 43 10), (20, A 48 10), (26, A 54 10), (30, A 58 10), (10, A 38 11), (21, A 49 11), (22, A 50 11), (31, A 59 11), (32, A 60 10), (33, A 27 2), (34, A 61 0), (35, A 62 0), (36, A 9 2), (37, A 7 2)] [0, 1, 0, 4, 15, 0, 32, 0, 128, 511, 1023, 0, 2048, 0, 8192, 31743, 0, 65536, 0, 262144, 1047551, 2096127, 4194303, 0, 8388608, 0, 60816383, 0, 134217728, 0, 1067449343, 2141191167, 4294967295, 8589934591, 17179869183, 17179869183, 34359738367, 137438953471]) (.seq (.seq (.reg [A 63 2, A 64 0]) (.cond (.seq (.draw [(0, A 4 4), (1, A 5 4), (2, A 6 4), (3, A 4 6), (4, A 5 6), (5, A 6 6), (6, A 7 2)] [0, 0, 0, 1, 11, 31, 63]) .leaf) .leaf)) (.seq (.draw [(0, A 3 4), (1, A 2 4), (2, A 70 2), (3, A 71 7), (4, A 72 5), (5, A 73 2), (6, A 74 7), (7, A 75 5), (10, A 10 3), (8, A 76 10), (9, A 77 10), (11, A 10 6)] [0, 0, 0, 4, 12, 0, 32, 96, 254, 511, 0, 2047]) (.seq (.draw [(0, A 78 2), (1, A 79 7), (2, A 80 5), (3, A 81 2), (4, A 82 7), (5, A 83 5), (6, A 10 4), (7, A 10 4), (8, A 86 10), (9, A 4 6), (10, A 5 6), (11, A 6 6), (12, A 7 2)] [0, 1, 3, 0, 8, 24, 0, 0, 192, 455, 1023, 2047, 4095]) .leaf)))))))
 (Eq.mpr (by kernel_rfl) h)

end Go.Proofs.YtefkpimcffofaaaGreat
