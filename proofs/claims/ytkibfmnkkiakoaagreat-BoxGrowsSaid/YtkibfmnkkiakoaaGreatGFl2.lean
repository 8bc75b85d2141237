/- Part of the proof; it has the parts GFl2. -/
import Derived.Test.YtkibfmnkkiakoaaGreatGFl3
set_option maxRecDepth 100000
set_option maxHeartbeats 4000000
namespace Go.Proofs.YtkibfmnkkiakoaaGreat
open Go Go.Vc Go.Proofs
open Go.IntKind (i8 i16 i32 i64 u8 u16 u32 u64)

theorem num_finite_vc (p0 : Nat) (V : View) (R : Value → View → Prop) 
 (h :
 CallV Tryz.prog 206 #[.float .f64 p0] V fun v V1 => ∃ r1 : Bool, v = .bool r1 ∧
 ((!r1) = true →
 CallV Tryz.prog 200 #[.float .f64 p0, .int .i64 0] V1 fun v V2 => ∃ r2 : Bool, v = .bool r2 ∧
 R (.bool (!r2)) V2) ∧
 ((!r1) = false →
 R (.bool false) V1)) :
 CallV Tryz.prog 135 #[.float .f64 p0] V R :=
 calls_of_vc (Shp := Shp) hmixed Tryz.func135 (c := Tryz.f135.body.getD .skip) (args := [.float .f64 p0]) (by kernel_rfl)
 (.seq (.reg [A 2 9]) (.seq (.reg [A 3 2, A 4 10, A 5 20, ⟨6, 2, true⟩, A 7 2, A 8 10, A 9 20, A 10 20, A 2 2]) .leaf))
 (Eq.mpr (by kernel_rfl) h)

theorem num_split_vc (p0 : Nat) (V : View) (R : Value → View → Prop) 
 (h :
 ∃ e1 : Int, ExtVal Tryz.prog 182 #[.float .f64 p0] (.int .u64 e1) ∧
 ((decide (((i64.wrap (u64.wrap (BitVec.toNat ((BitVec.ofInt u64.bits (Int.fdiv e1 (2 ^ (min (Int.toNat 52) (u64.bits))))) &&& (BitVec.ofInt u64.bits 2047))))) : Int) > 0)) = true →
 CallV Tryz.prog 207 #[.int .u64 (u64.wrap (BitVec.toNat ((BitVec.ofInt u64.bits (u64.wrap (BitVec.toNat ((BitVec.ofInt u64.bits e1) &&& (BitVec.ofInt u64.bits 4503599627370495))))) ||| (BitVec.ofInt u64.bits 4503599627370496))))] V fun v V1 => ∃ r1 : Sl, v = r1.v ∧
 CallV Tryz.prog 138 #[.bool (((Int.fdiv e1 (2 ^ (min (Int.toNat 63) (u64.bits)))) : Int) == 1), r1.v] V1 fun v V2 => ∃ r2 : WhV, v = r2.val ∧
 R (.tuple #[r2.val, .int .i64 (i64.wrap ((if (1 : Int) > (i64.wrap (u64.wrap (BitVec.toNat ((BitVec.ofInt u64.bits (Int.fdiv e1 (2 ^ (min (Int.toNat 52) (u64.bits))))) &&& (BitVec.ofInt u64.bits 2047))))) then 1 else (i64.wrap (u64.wrap (BitVec.toNat ((BitVec.ofInt u64.bits (Int.fdiv e1 (2 ^ (min (Int.toNat 52) (u64.bits))))) &&& (BitVec.ofInt u64.bits 2047)))))) - 1075))]) V2) ∧
 ((decide (((i64.wrap (u64.wrap (BitVec.toNat ((BitVec.ofInt u64.bits (Int.fdiv e1 (2 ^ (min (Int.toNat 52) (u64.bits))))) &&& (BitVec.ofInt u64.bits 2047))))) : Int) > 0)) = false →
 CallV Tryz.prog 207 #[.int .u64 (u64.wrap (BitVec.toNat ((BitVec.ofInt u64.bits e1) &&& (BitVec.ofInt u64.bits 4503599627370495))))] V fun v V3 => ∃ r3 : Sl, v = r3.v ∧
 CallV Tryz.prog 138 #[.bool (((Int.fdiv e1 (2 ^ (min (Int.toNat 63) (u64.bits)))) : Int) == 1), r3.v] V3 fun v V4 => ∃ r4 : WhV, v = r4.val ∧
 R (.tuple #[r4.val, .int .i64 (i64.wrap ((if (1 : Int) > (i64.wrap (u64.wrap (BitVec.toNat ((BitVec.ofInt u64.bits (Int.fdiv e1 (2 ^ (min (Int.toNat 52) (u64.bits))))) &&& (BitVec.ofInt u64.bits 2047))))) then 1 else (i64.wrap (u64.wrap (BitVec.toNat ((BitVec.ofInt u64.bits (Int.fdiv e1 (2 ^ (min (Int.toNat 52) (u64.bits))))) &&& (BitVec.ofInt u64.bits 2047)))))) - 1075))]) V4)) :
 CallV Tryz.prog 136 #[.float .f64 p0] V R :=
 calls_of_vc (Shp := Shp) hmixed Tryz.func136 (c := Tryz.f136.body.getD .skip) (args := [.float .f64 p0]) (by kernel_rfl)
 (.seq (.reg [A 2 3, A 3 2]) (.seq (.reg [A 7 2, A 8 12, A 4 2]) (.seq (.reg [A 9 2, A 10 0, A 11 2, A 12 0, A 13 0, A 14 0, A 5 2, A 6 2]) (.seq (.seq (.reg [A 15 2, A 16 0]) (.cond (.reg [A 17 2, A 18 0, A 5 2]) .leaf)) (.seq (.reg [A 19 2, A 20 0, A 21 0, A 22 2, A 23 10, A 24 10, A 25 2, A 26 0, A 27 0, A 2 6, A 3 2]) .leaf)))))
 (Eq.mpr (by kernel_rfl) h)

theorem num_Complex_vc (p0 : CxV) (V : View) (R : Value → View → Prop) 
 (h :
 CallV Tryz.prog 135 #[.float .f64 p0.re] V fun v V1 => ∃ r1 : Bool, v = .bool r1 ∧
 ((!r1) = true →
 R (.tuple #[(NumV.mk (WhV.mk false (Sl.mk none 0 0)) (WhV.mk false (Sl.mk none 0 0)) (Sl.mk none 0 0)).val, .int .i64 1]) V1) ∧
 ((!r1) = false →
 CallV Tryz.prog 135 #[.float .f64 p0.im] V1 fun v V2 => ∃ r2 : Bool, v = .bool r2 ∧
 ((!r2) = true →
 R (.tuple #[(NumV.mk (WhV.mk false (Sl.mk none 0 0)) (WhV.mk false (Sl.mk none 0 0)) (Sl.mk none 0 0)).val, .int .i64 1]) V2) ∧
 ((!r2) = false →
 CallV Tryz.prog 136 #[.float .f64 p0.re] V2 fun v V3 => ∃ (r3 : WhV) (r4 : Int), v = .tuple #[r3.val, .int .i64 r4] ∧
 CallV Tryz.prog 136 #[.float .f64 p0.im] V3 fun v V4 => ∃ (r5 : WhV) (r6 : Int), v = .tuple #[r5.val, .int .i64 r6] ∧
 CallV Tryz.prog 139 #[r3.mag.v, .int .i64 (i64.wrap (r4 + (if ((i64.wrap (0 - r6)) : Int) > (if ((i64.wrap (0 - r4)) : Int) > 0 then (i64.wrap (0 - r4)) else 0) then (i64.wrap (0 - r6)) else (if ((i64.wrap (0 - r4)) : Int) > 0 then (i64.wrap (0 - r4)) else 0))))] V4 fun v V5 => ∃ r7 : Sl, v = r7.v ∧
 CallV Tryz.prog 138 #[.bool r3.neg, r7.v] V5 fun v V6 => ∃ r8 : WhV, v = r8.val ∧
 CallV Tryz.prog 139 #[r5.mag.v, .int .i64 (i64.wrap (r6 + (if ((i64.wrap (0 - r6)) : Int) > (if ((i64.wrap (0 - r4)) : Int) > 0 then (i64.wrap (0 - r4)) else 0) then (i64.wrap (0 - r6)) else (if ((i64.wrap (0 - r4)) : Int) > 0 then (i64.wrap (0 - r4)) else 0))))] V6 fun v V7 => ∃ r9 : Sl, v = r9.v ∧
 CallV Tryz.prog 138 #[.bool r5.neg, r9.v] V7 fun v V8 => ∃ r10 : WhV, v = r10.val ∧
 ∀ (b1 : Nat) (V9 : View), View.le V8 V9 → View.Fin V9 → V9 b1 = some #[.int .u32 1] →
 CallV Tryz.prog 139 #[(Sl.mk (some (Addr.mk b1 0 none)) 1 1).v, .int .i64 (if ((i64.wrap (0 - r6)) : Int) > (if ((i64.wrap (0 - r4)) : Int) > 0 then (i64.wrap (0 - r4)) else 0) then (i64.wrap (0 - r6)) else (if ((i64.wrap (0 - r4)) : Int) > 0 then (i64.wrap (0 - r4)) else 0))] V9 fun v V10 => ∃ r11 : Sl, v = r11.v ∧
 CallV Tryz.prog 137 #[r8.val, r10.val, r11.v] V10 fun v V11 => ∃ r12 : NumV, v = r12.val ∧
 R (.tuple #[r12.val, .int .i64 0]) V11))) :
 CallV Tryz.prog 56 #[.complex .f64 p0.re p0.im] V R :=
 calls_of_vc (Shp := Shp) hmixed Tryz.func56 (c := Tryz.f56.body.getD .skip) (args := [.complex .f64 p0.re p0.im]) (by kernel_rfl)
 (.seq (.reg [A 2 3, A 3 2]) (.seq (.seq (.reg [A 9 2, A 10 0, A 11 10, A 12 20, ⟨13, 2, true⟩, A 14 2, A 15 0, A 16 10, A 17 20, A 18 20]) (.cond (.seq (.reg [A 19 0, A 2 6, A 3 2]) .leaf) .leaf)) (.seq (.reg [A 21 2, A 22 0, A 23 10, A 20 2, A 24 0, A 25 0, A 4 3, A 4 6, A 5 2]) (.seq (.reg [A 27 2, A 28 0, A 29 10, A 26 2, A 30 0, A 31 0, A 6 3, A 6 6, A 7 2]) (.seq (.reg [A 32 2, A 33 0, A 34 2, A 35 0, A 36 0, A 8 2]) (.seq (.draw [(0, A 37 7), (1, A 4 4), (2, A 39 7), (3, A 4 4), (4, A 41 2), (5, A 42 2), (6, A 43 0), (9, A 46 7), (10, A 6 4), (11, A 48 7), (12, A 6 4), (13, A 50 2), (14, A 51 2), (15, A 52 0), (19, A 56 2), (7, A 44 10), (8, A 45 10), (16, A 53 10), (17, A 54 10), (18, A 55 11), (20, A 57 10), (21, A 58 10), (22, A 2 6), (23, A 3 2)] [0, 1, 0, 4, 0, 0, 48, 124, 255, 0, 512, 0, 2048, 0, 0, 24576, 63999, 131071, 0, 0, 1048575, 2097151, 4194303, 8388607]) .leaf))))))
 (Eq.mpr (by kernel_rfl) h)

theorem num_double_vc  (V : View) (R : Value → View → Prop) 
 (h :
 R ((FormV.mk 53 (-1074) 1023).val) V) :
 CallV Tryz.prog 140 #[] V R :=
 calls_of_vc (Shp := Shp) hmixed Tryz.func140 (c := Tryz.f140.body.getD .skip) (args := []) (by kernel_rfl)
 (.seq (.reg [A 0 3]) (.seq (.reg [A 1 0, A 0 6]) .leaf))
 (Eq.mpr (by kernel_rfl) h)

theorem Num_Re_vc (p0 : NumV) (V : View) (R : Value → View → Prop) 
 (h :
 CallV Tryz.prog 142 #[p0.val] V fun v V1 => ∃ r1 : Sl, v = r1.v ∧
 CallV Tryz.prog 137 #[p0.re.val, (WhV.mk false (Sl.mk none 0 0)).val, r1.v] V1 fun v V2 => ∃ r2 : NumV, v = r2.val ∧
 R (r2.val) V2) :
 CallV Tryz.prog 128 #[p0.val] V R :=
 calls_of_vc (Shp := Shp) hmixed Tryz.func128 (c := Tryz.f128.body.getD .skip) (args := [p0.val]) (by kernel_rfl)
 (.seq (.reg [A 1 3, A 2 3]) (.seq (.draw [(0, A 3 7), (1, A 1 4), (2, A 5 0), (3, A 1 4), (4, A 7 10), (5, A 8 10), (6, A 2 6)] [0, 1, 0, 0, 8, 31, 63]) .leaf))
 (Eq.mpr (by kernel_rfl) h)

theorem Num_Im_vc (p0 : NumV) (V : View) (R : Value → View → Prop) 
 (h :
 CallV Tryz.prog 142 #[p0.val] V fun v V1 => ∃ r1 : Sl, v = r1.v ∧
 CallV Tryz.prog 137 #[p0.im.val, (WhV.mk false (Sl.mk none 0 0)).val, r1.v] V1 fun v V2 => ∃ r2 : NumV, v = r2.val ∧
 R (r2.val) V2) :
 CallV Tryz.prog 129 #[p0.val] V R :=
 calls_of_vc (Shp := Shp) hmixed Tryz.func129 (c := Tryz.f129.body.getD .skip) (args := [p0.val]) (by kernel_rfl)
 (.seq (.reg [A 1 3, A 2 3]) (.seq (.draw [(0, A 3 7), (1, A 1 4), (2, A 5 0), (3, A 1 4), (4, A 7 10), (5, A 8 10), (6, A 2 6)] [0, 1, 0, 0, 8, 31, 63]) .leaf))
 (Eq.mpr (by kernel_rfl) h)

theorem Num_Clear_vc (p0 : NumV) (V : View) (R : Value → View → Prop) 
 (h :
 R (.bool (decide (((i64.wrap ((p0.re.mag.len : Int) + (p0.im.mag.len : Int))) : Int) > 0))) V) :
 CallV Tryz.prog 176 #[p0.val] V R :=
 calls_of_vc (Shp := Shp) hmixed Tryz.func176 (c := Tryz.f176.body.getD .skip) (args := [p0.val]) (by kernel_rfl)
 (.seq (.reg [A 1 3, A 2 9]) (.seq (.reg [A 3 7, A 4 7, A 1 4, A 6 0, A 7 7, A 8 7, A 1 4, A 10 0, A 11 0, A 12 0, A 2 2]) .leaf))
 (Eq.mpr (by kernel_rfl) h)

theorem Num_Div_vc (p0 : NumV) (p1 : NumV) (V : View) (R : Value → View → Prop) 
 (h :
 CallV Tryz.prog 176 #[p1.val] V fun v V1 => ∃ r1 : Bool, v = .bool r1 ∧
 ((!r1) = true →
 R (.tuple #[(NumV.mk (WhV.mk false (Sl.mk none 0 0)) (WhV.mk false (Sl.mk none 0 0)) (Sl.mk none 0 0)).val, .int .i64 3]) V1) ∧
 ((!r1) = false →
 CallV Tryz.prog 177 #[p1.re.val, p1.re.val] V1 fun v V2 => ∃ r2 : WhV, v = r2.val ∧
 CallV Tryz.prog 177 #[p1.im.val, p1.im.val] V2 fun v V3 => ∃ r3 : WhV, v = r3.val ∧
 CallV Tryz.prog 162 #[r2.val, r3.val] V3 fun v V4 => ∃ r4 : WhV, v = r4.val ∧
 CallV Tryz.prog 178 #[p1.im.val] V4 fun v V5 => ∃ r5 : WhV, v = r5.val ∧
 ∀ (b1 : Nat) (V6 : View), View.le V5 V6 → View.Fin V6 → V6 b1 = some #[.int .u32 1] →
 CallV Tryz.prog 137 #[p1.re.val, r5.val, (Sl.mk (some (Addr.mk b1 0 none)) 1 1).v] V6 fun v V7 => ∃ r6 : NumV, v = r6.val ∧
 CallV Tryz.prog 91 #[p0.val, r6.val] V7 fun v V8 => ∃ r7 : NumV, v = r7.val ∧
 CallV Tryz.prog 142 #[p1.val] V8 fun v V9 => ∃ r8 : Sl, v = r8.v ∧
 CallV Tryz.prog 161 #[r7.re.val, r8.v] V9 fun v V10 => ∃ r9 : WhV, v = r9.val ∧
 CallV Tryz.prog 142 #[p1.val] V10 fun v V11 => ∃ r10 : Sl, v = r10.v ∧
 CallV Tryz.prog 161 #[r7.im.val, r10.v] V11 fun v V12 => ∃ r11 : WhV, v = r11.val ∧
 CallV Tryz.prog 142 #[r7.val] V12 fun v V13 => ∃ r12 : Sl, v = r12.v ∧
 CallV Tryz.prog 163 #[r12.v, r4.mag.v] V13 fun v V14 => ∃ r13 : Sl, v = r13.v ∧
 CallV Tryz.prog 137 #[r9.val, r11.val, r13.v] V14 fun v V15 => ∃ r14 : NumV, v = r14.val ∧
 R (.tuple #[r14.val, .int .i64 0]) V15)) :
 CallV Tryz.prog 89 #[p0.val, p1.val] V R :=
 calls_of_vc (Shp := Shp) hmixed Tryz.func89 (c := Tryz.f89.body.getD .skip) (args := [p0.val, p1.val]) (by kernel_rfl)
 (.seq (.reg [A 2 3, A 3 3, A 4 3, A 5 2]) (.seq (.seq (.reg [A 3 4, A 9 10, A 10 20]) (.cond (.seq (.reg [A 11 0, A 4 6, A 5 2]) .leaf) .leaf)) (.seq (.draw [(0, A 12 7), (1, A 3 4), (2, A 14 7), (3, A 3 4), (5, A 17 7), (6, A 3 4), (7, A 19 7), (8, A 3 4), (11, A 6 3), (4, A 16 10), (9, A 21 10), (10, A 22 10), (12, A 6 6)] [0, 1, 0, 4, 15, 0, 32, 0, 128, 511, 1023, 0, 4095]) (.seq (.draw [(0, A 2 4), (1, A 24 7), (2, A 3 4), (3, A 26 7), (4, A 3 4), (9, A 7 3), (5, A 28 10), (6, A 29 11), (7, A 30 10), (8, A 31 10), (10, A 7 6)] [0, 0, 2, 0, 8, 24, 0, 126, 255, 0, 1023]) (.seq (.draw [(0, A 32 7), (1, A 7 4), (2, A 3 4), (5, A 37 7), (6, A 7 4), (7, A 3 4), (10, A 7 4), (12, A 44 7), (13, A 6 4), (3, A 35 10), (4, A 36 10), (8, A 40 10), (9, A 41 10), (11, A 43 10), (14, A 46 10), (15, A 47 10), (16, A 4 6), (17, A 5 2)] [0, 1, 0, 4, 15, 0, 32, 0, 159, 511, 0, 2047, 0, 4096, 16383, 32767, 65535, 131071]) .leaf)))))
 (Eq.mpr (by kernel_rfl) h)

end Go.Proofs.YtkibfmnkkiakoaaGreat
