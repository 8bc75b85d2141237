/- Part of the proof; it has the parts GFl2. -/
import Derived.Test.YtefkpimcffofaaaGreatFTr1
set_option maxRecDepth 100000
set_option maxHeartbeats 4000000
namespace Go.Proofs.YtefkpimcffofaaaGreat
open Go Go.Vc Go.Proofs
open Go.IntKind (i8 i16 i32 i64 u8 u16 u32 u64)

theorem Num_Clear_vc (p0 : NumV) (V : View) (R : Value → View → Prop) 
 (h :
 R (.bool (decide (((i64.wrap ((p0.re.mag.len : Int) + (p0.im.mag.len : Int))) : Int) > 0))) V) :
 CallV Tryz.prog 83 #[p0.val] V R :=
 calls_of_vc (Shp := Shp) hmixed Tryz.func83 (c := Tryz.f83.body.getD .skip) (args := [p0.val]) (by kernel_rfl)
 (.seq (.reg [A 1 3, A 2 9]) (.seq (.reg [A 3 7, A 4 7, A 1 4, A 6 0, A 7 7, A 8 7, A 1 4, A 10 0, A 11 0, A 12 0, A 2 2]) .leaf))
 (Eq.mpr (by kernel_rfl) h)

theorem Num_Div_vc (p0 : NumV) (p1 : NumV) (V : View) (R : Value → View → Prop) 
 (h :
 CallV Tryz.prog 83 #[p1.val] V fun v V1 => ∃ r1 : Bool, v = .bool r1 ∧
 ((!r1) = true →
 R (.tuple #[(NumV.mk (WhV.mk false (Sl.mk none 0 0)) (WhV.mk false (Sl.mk none 0 0)) (Sl.mk none 0 0)).val, .int .i64 3]) V1) ∧
 ((!r1) = false →
 CallV Tryz.prog 289 #[p1.re.val, p1.re.val] V1 fun v V2 => ∃ r2 : WhV, v = r2.val ∧
 CallV Tryz.prog 289 #[p1.im.val, p1.im.val] V2 fun v V3 => ∃ r3 : WhV, v = r3.val ∧
 CallV Tryz.prog 114 #[r2.val, r3.val] V3 fun v V4 => ∃ r4 : WhV, v = r4.val ∧
 CallV Tryz.prog 223 #[p1.im.val] V4 fun v V5 => ∃ r5 : WhV, v = r5.val ∧
 ∀ (b1 : Nat) (V6 : View), View.le V5 V6 → View.Fin V6 → V6 b1 = some #[.int .u32 1] →
 CallV Tryz.prog 112 #[p1.re.val, r5.val, (Sl.mk (some (Addr.mk b1 0 none)) 1 1).v] V6 fun v V7 => ∃ r6 : NumV, v = r6.val ∧
 CallV Tryz.prog 209 #[p0.val, r6.val] V7 fun v V8 => ∃ r7 : NumV, v = r7.val ∧
 CallV Tryz.prog 111 #[p1.val] V8 fun v V9 => ∃ r8 : Sl, v = r8.v ∧
 CallV Tryz.prog 113 #[r7.re.val, r8.v] V9 fun v V10 => ∃ r9 : WhV, v = r9.val ∧
 CallV Tryz.prog 111 #[p1.val] V10 fun v V11 => ∃ r10 : Sl, v = r10.v ∧
 CallV Tryz.prog 113 #[r7.im.val, r10.v] V11 fun v V12 => ∃ r11 : WhV, v = r11.val ∧
 CallV Tryz.prog 111 #[r7.val] V12 fun v V13 => ∃ r12 : Sl, v = r12.v ∧
 CallV Tryz.prog 115 #[r12.v, r4.mag.v] V13 fun v V14 => ∃ r13 : Sl, v = r13.v ∧
 CallV Tryz.prog 112 #[r9.val, r11.val, r13.v] V14 fun v V15 => ∃ r14 : NumV, v = r14.val ∧
 R (.tuple #[r14.val, .int .i64 0]) V15)) :
 CallV Tryz.prog 201 #[p0.val, p1.val] V R :=
 calls_of_vc (Shp := Shp) hmixed Tryz.func201 (c := Tryz.f201.body.getD .skip) (args := [p0.val, p1.val]) (by kernel_rfl)
 (.seq (.reg [A 2 3, A 3 3, A 4 3, A 5 2]) (.seq (.seq (.reg [A 3 4, A 9 10, A 10 20]) (.cond (.seq (.reg [A 11 0, A 4 6, A 5 2]) .leaf) .leaf)) (.seq (.draw [(0, A 12 7), (1, A 3 4), (2, A 14 7), (3, A 3 4), (5, A 17 7), (6, A 3 4), (7, A 19 7), (8, A 3 4), (11, A 6 3), (4, A 16 10), (9, A 21 10), (10, A 22 10), (12, A 6 6)] [0, 1, 0, 4, 15, 0, 32, 0, 128, 511, 1023, 0, 4095]) (.seq (.draw [(0, A 2 4), (1, A 24 7), (2, A 3 4), (3, A 26 7), (4, A 3 4), (9, A 7 3), (5, A 28 10), (6, A 29 11), (7, A 30 10), (8, A 31 10), (10, A 7 6)] [0, 0, 2, 0, 8, 24, 0, 126, 255, 0, 1023]) (.seq (.draw [(0, A 32 7), (1, A 7 4), (2, A 3 4), (5, A 37 7), (6, A 7 4), (7, A 3 4), (10, A 7 4), (12, A 44 7), (13, A 6 4), (3, A 35 10), (4, A 36 10), (8, A 40 10), (9, A 41 10), (11, A 43 10), (14, A 46 10), (15, A 47 10), (16, A 4 6), (17, A 5 2)] [0, 1, 0, 4, 15, 0, 32, 0, 159, 511, 0, 2047, 0, 4096, 16383, 32767, 65535, 131071]) .leaf)))))
 (Eq.mpr (by kernel_rfl) h)

end Go.Proofs.YtefkpimcffofaaaGreat
