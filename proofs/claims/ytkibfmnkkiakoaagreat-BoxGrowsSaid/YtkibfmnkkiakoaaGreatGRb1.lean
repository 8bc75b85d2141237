/- Part of the proof; it has the parts GRb1. -/
import Derived.Test.YtkibfmnkkiakoaaGreatGBx5
set_option maxRecDepth 100000
set_option maxHeartbeats 4000000
namespace Go.Proofs.YtkibfmnkkiakoaaGreat
open Go Go.Vc Go.Proofs
open Go.IntKind (i8 i16 i32 i64 u8 u16 u32 u64)

theorem ref1_finite_vc (p0 : Nat) (V : View) (R : Value → View → Prop) 
 (h :
 ∃ e1 : Int, ExtVal Tryz.prog 182 #[.float .f64 p0] (.int .u64 e1) ∧
 R (.bool (((u64.wrap (BitVec.toNat ((BitVec.ofInt u64.bits (Int.fdiv e1 (2 ^ (min (Int.toNat 52) (u64.bits))))) &&& (BitVec.ofInt u64.bits 2047)))) : Int) != 2047)) V) :
 CallV Tryz.prog 246 #[.float .f64 p0] V R :=
 calls_of_vc (Shp := Shp) hmixed Tryz.func246 (c := Tryz.f246.body.getD .skip) (args := [.float .f64 p0]) (by kernel_rfl)
 (.seq (.reg [A 2 9]) (.seq (.reg [A 3 2, A 4 12, A 5 0, A 6 0, A 7 0, A 2 2]) .leaf))
 (Eq.mpr (by kernel_rfl) h)

theorem ref1_dyadic_vc (p0 : Nat) (V : View) (R : Value → View → Prop) 
 (h :
 ∃ e1 : Int, ExtVal Tryz.prog 182 #[.float .f64 p0] (.int .u64 e1) ∧
 ((((i64.wrap (u64.wrap (BitVec.toNat ((BitVec.ofInt u64.bits (Int.fdiv e1 (2 ^ (min (Int.toNat 52) (u64.bits))))) &&& (BitVec.ofInt u64.bits 2047))))) : Int) == 0) = true →
 CallV Tryz.prog 238 #[.int .u64 (u64.wrap (BitVec.toNat ((BitVec.ofInt u64.bits e1) &&& (BitVec.ofInt u64.bits 4503599627370495))))] V fun v V1 => ∃ r1 : Sl, v = r1.v ∧
 CallV Tryz.prog 241 #[.bool (((Int.fdiv e1 (2 ^ (min (Int.toNat 63) (u64.bits)))) : Int) == 1), r1.v] V1 fun v V2 => ∃ r2 : WhV, v = r2.val ∧
 ((decide ((1 : Int) ≥ 1075)) = true →
 CallV Tryz.prog 264 #[r2.mag.v, .int .i64 (i64.wrap (1 - 1075))] V2 fun v V3 => ∃ r3 : Sl, v = r3.v ∧
 CallV Tryz.prog 241 #[.bool r2.neg, r3.v] V3 fun v V4 => ∃ r4 : WhV, v = r4.val ∧
 ∀ (b1 : Nat) (V5 : View), View.le V4 V5 → View.Fin V5 → V5 b1 = some #[.int .u32 1] →
 R ((NumV.mk r4 (WhV.mk false (Sl.mk none 0 0)) (Sl.mk (some (Addr.mk b1 0 none)) 1 1)).val) V5) ∧
 ((decide ((1 : Int) ≥ 1075)) = false →
 ∀ (b2 : Nat) (V6 : View), View.le V2 V6 → View.Fin V6 → V6 b2 = some #[.int .u32 1] →
 CallV Tryz.prog 264 #[(Sl.mk (some (Addr.mk b2 0 none)) 1 1).v, .int .i64 (i64.wrap (1075 - 1))] V6 fun v V7 => ∃ r5 : Sl, v = r5.v ∧
 CallV Tryz.prog 196 #[r2.val, (WhV.mk false (Sl.mk none 0 0)).val, r5.v] V7 fun v V8 => ∃ r6 : NumV, v = r6.val ∧
 R (r6.val) V8)) ∧
 ((((i64.wrap (u64.wrap (BitVec.toNat ((BitVec.ofInt u64.bits (Int.fdiv e1 (2 ^ (min (Int.toNat 52) (u64.bits))))) &&& (BitVec.ofInt u64.bits 2047))))) : Int) == 0) = false →
 CallV Tryz.prog 238 #[.int .u64 (u64.wrap (BitVec.toNat ((BitVec.ofInt u64.bits (u64.wrap (BitVec.toNat ((BitVec.ofInt u64.bits e1) &&& (BitVec.ofInt u64.bits 4503599627370495))))) ||| (BitVec.ofInt u64.bits 4503599627370496))))] V fun v V9 => ∃ r7 : Sl, v = r7.v ∧
 CallV Tryz.prog 241 #[.bool (((Int.fdiv e1 (2 ^ (min (Int.toNat 63) (u64.bits)))) : Int) == 1), r7.v] V9 fun v V10 => ∃ r8 : WhV, v = r8.val ∧
 ((decide (((i64.wrap (u64.wrap (BitVec.toNat ((BitVec.ofInt u64.bits (Int.fdiv e1 (2 ^ (min (Int.toNat 52) (u64.bits))))) &&& (BitVec.ofInt u64.bits 2047))))) : Int) ≥ 1075)) = true →
 CallV Tryz.prog 264 #[r8.mag.v, .int .i64 (i64.wrap ((i64.wrap (u64.wrap (BitVec.toNat ((BitVec.ofInt u64.bits (Int.fdiv e1 (2 ^ (min (Int.toNat 52) (u64.bits))))) &&& (BitVec.ofInt u64.bits 2047))))) - 1075))] V10 fun v V11 => ∃ r9 : Sl, v = r9.v ∧
 CallV Tryz.prog 241 #[.bool r8.neg, r9.v] V11 fun v V12 => ∃ r10 : WhV, v = r10.val ∧
 ∀ (b3 : Nat) (V13 : View), View.le V12 V13 → View.Fin V13 → V13 b3 = some #[.int .u32 1] →
 R ((NumV.mk r10 (WhV.mk false (Sl.mk none 0 0)) (Sl.mk (some (Addr.mk b3 0 none)) 1 1)).val) V13) ∧
 ((decide (((i64.wrap (u64.wrap (BitVec.toNat ((BitVec.ofInt u64.bits (Int.fdiv e1 (2 ^ (min (Int.toNat 52) (u64.bits))))) &&& (BitVec.ofInt u64.bits 2047))))) : Int) ≥ 1075)) = false →
 ∀ (b4 : Nat) (V14 : View), View.le V10 V14 → View.Fin V14 → V14 b4 = some #[.int .u32 1] →
 CallV Tryz.prog 264 #[(Sl.mk (some (Addr.mk b4 0 none)) 1 1).v, .int .i64 (i64.wrap (1075 - (i64.wrap (u64.wrap (BitVec.toNat ((BitVec.ofInt u64.bits (Int.fdiv e1 (2 ^ (min (Int.toNat 52) (u64.bits))))) &&& (BitVec.ofInt u64.bits 2047)))))))] V14 fun v V15 => ∃ r11 : Sl, v = r11.v ∧
 CallV Tryz.prog 196 #[r8.val, (WhV.mk false (Sl.mk none 0 0)).val, r11.v] V15 fun v V16 => ∃ r12 : NumV, v = r12.val ∧
 R (r12.val) V16))) :
 CallV Tryz.prog 247 #[.float .f64 p0] V R :=
 calls_of_vc (Shp := Shp) hmixed Tryz.func247 (c := Tryz.f247.body.getD .skip) (args := [.float .f64 p0]) (by kernel_rfl)
 (.seq (.reg [A 2 3]) (.seq (.reg [A 7 2, A 8 12, A 3 2]) (.seq (.reg [A 9 2, A 10 0, A 11 0, A 12 0, A 4 2]) (.seq (.reg [A 13 2, A 14 0, A 5 2]) (.seq (.seq (.reg [A 15 2, A 16 0]) (.cond (.reg [A 4 2]) (.reg [A 17 2, A 18 0, A 5 2]))) (.seq (.reg [A 19 2, A 20 0, A 21 0, A 22 2, A 23 10, A 24 10, A 6 3, A 6 6]) (.seq (.seq (.reg [A 25 2, A 26 0]) (.cond (.seq (.draw [(0, A 27 7), (1, A 6 4), (2, A 29 7), (3, A 6 4), (4, A 31 2), (5, A 32 0), (8, A 35 0), (6, A 33 10), (7, A 34 10), (9, A 36 11), (10, A 37 0), (11, A 2 6)] [0, 1, 0, 4, 0, 16, 60, 127, 0, 0, 1023, 2047]) .leaf) .leaf)) (.seq (.draw [(0, A 6 4), (1, A 39 0), (3, A 41 2), (4, A 42 0), (2, A 40 11), (5, A 43 10), (6, A 44 10), (7, A 2 6)] [0, 0, 0, 0, 8, 28, 63, 127]) .leaf))))))))
 (Eq.mpr (by kernel_rfl) h)

theorem ref1_Float_vc (p0 : Nat) (V : View) (R : Value → View → Prop) 
 (h :
 CallV Tryz.prog 246 #[.float .f64 p0] V fun v V1 => ∃ r1 : Bool, v = .bool r1 ∧
 ((!r1) = true →
 CallV Tryz.prog 108 #[.int .i64 0] V1 fun v V2 => ∃ r2 : NumV, v = r2.val ∧
 R (.tuple #[r2.val, .int .i64 1]) V2) ∧
 ((!r1) = false →
 CallV Tryz.prog 247 #[.float .f64 p0] V1 fun v V3 => ∃ r3 : NumV, v = r3.val ∧
 R (.tuple #[r3.val, .int .i64 0]) V3)) :
 CallV Tryz.prog 201 #[.float .f64 p0] V R :=
 calls_of_vc (Shp := Shp) hmixed Tryz.func201 (c := Tryz.f201.body.getD .skip) (args := [.float .f64 p0]) (by kernel_rfl)
 (.seq (.reg [A 2 3, A 3 2]) (.seq (.seq (.reg [A 4 2, A 5 10, A 6 20]) (.cond (.seq (.reg [A 7 10, A 2 6, A 3 2]) .leaf) .leaf)) (.seq (.reg [A 8 2, A 9 10, A 2 6, A 3 2]) .leaf)))
 (Eq.mpr (by kernel_rfl) h)

end Go.Proofs.YtkibfmnkkiakoaaGreat
