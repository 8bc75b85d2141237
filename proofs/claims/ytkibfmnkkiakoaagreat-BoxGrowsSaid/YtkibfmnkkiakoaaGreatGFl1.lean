/- Part of the proof; it has the parts GFl1. -/
import Derived.Test.YtkibfmnkkiakoaaGreatGFl2
set_option maxRecDepth 100000
set_option maxHeartbeats 4000000
namespace Go.Proofs.YtkibfmnkkiakoaaGreat
open Go Go.Vc Go.Proofs
open Go.IntKind (i8 i16 i32 i64 u8 u16 u32 u64)

theorem math_IsNaN_vc (p0 : Nat) (V : View) (R : Value → View → Prop) 
 (h :
 R (.bool (FloatKind.f64.format.order p0 p0 != some .eq)) V) :
 CallV Tryz.prog 206 #[.float .f64 p0] V R :=
 calls_of_vc (Shp := Shp) hmixed Tryz.func206 (c := Tryz.f206.body.getD .skip) (args := [.float .f64 p0]) (by kernel_rfl)
 (.seq (.reg [A 2 9]) (.seq (.reg [A 3 2, A 4 2, A 5 0, A 2 2]) .leaf))
 (Eq.mpr (by kernel_rfl) h)

theorem math_Abs_vc (p0 : Nat) (V : View) (R : Value → View → Prop) 
 (h :
 ∃ e1 : Int, ExtVal Tryz.prog 182 #[.float .f64 p0] (.int .u64 e1) ∧
 ∃ e2 : Nat, ExtVal Tryz.prog 221 #[.int .u64 (u64.wrap (BitVec.toNat ((BitVec.ofInt u64.bits e1) &&& ~~~(BitVec.ofInt u64.bits 9223372036854775808))))] (.float .f64 e2) ∧
 R (.float .f64 e2) V) :
 CallV Tryz.prog 245 #[.float .f64 p0] V R :=
 calls_of_vc (Shp := Shp) hmixed Tryz.func245 (c := Tryz.f245.body.getD .skip) (args := [.float .f64 p0]) (by kernel_rfl)
 (.seq (.reg [A 2 2]) (.seq (.reg [A 3 2, A 4 12, A 5 0, A 6 12, A 2 2]) .leaf))
 (Eq.mpr (by kernel_rfl) h)

theorem math_IsInf_vc (p0 : Nat) (p1 : Int) (V : View) (R : Value → View → Prop) 
 (h :
 (((p1 : Int) == 0) = true →
 CallV Tryz.prog 245 #[.float .f64 p0] V fun v V1 => ∃ r1 : Nat, v = .float .f64 r1 ∧
 R (.bool (FloatKind.f64.format.order r1 9218868437227405311 == some .gt)) V1) ∧
 (((p1 : Int) == 0) = false →
 ((decide ((p1 : Int) < 0)) = true →
 R (.bool (FloatKind.f64.format.order (Op.negFloat .f64 p0) 9218868437227405311 == some .gt)) V) ∧
 ((decide ((p1 : Int) < 0)) = false →
 R (.bool (FloatKind.f64.format.order p0 9218868437227405311 == some .gt)) V))) :
 CallV Tryz.prog 200 #[.float .f64 p0, .int .i64 p1] V R :=
 calls_of_vc (Shp := Shp) hmixed Tryz.func200 (c := Tryz.f200.body.getD .skip) (args := [.float .f64 p0, .int .i64 p1]) (by kernel_rfl)
 (.seq (.reg [A 4 9]) (.seq (.seq (.reg [A 5 2, A 6 0]) (.cond (.reg [A 7 2, A 8 10, A 0 2]) (.seq (.reg [A 9 2, A 10 0]) (.cond (.reg [A 11 2, A 12 0, A 0 2]) .leaf)))) (.seq (.reg [A 13 2, A 14 0, A 4 2]) .leaf)))
 (Eq.mpr (by kernel_rfl) h)

theorem math_Inf_vc (p0 : Int) (V : View) (R : Value → View → Prop) 
 (h :
 ((decide ((p0 : Int) ≥ 0)) = true →
 ∃ e1 : Nat, ExtVal Tryz.prog 221 #[.int .u64 9218868437227405312] (.float .f64 e1) ∧
 R (.float .f64 e1) V) ∧
 ((decide ((p0 : Int) ≥ 0)) = false →
 ∃ e2 : Nat, ExtVal Tryz.prog 221 #[.int .u64 18442240474082181120] (.float .f64 e2) ∧
 R (.float .f64 e2) V)) :
 CallV Tryz.prog 159 #[.int .i64 p0] V R :=
 calls_of_vc (Shp := Shp) hmixed Tryz.func159 (c := Tryz.f159.body.getD .skip) (args := [.int .i64 p0]) (by kernel_rfl)
 (.seq (.reg [A 2 2]) (.seq (.reg [A 3 2]) (.seq (.seq (.reg [A 4 2, A 5 0]) (.cond (.reg [A 3 2]) (.reg [A 3 2]))) (.seq (.reg [A 6 2, A 7 12, A 2 2]) .leaf))))
 (Eq.mpr (by kernel_rfl) h)

theorem math_Copysign_vc (p0 : Nat) (p1 : Nat) (V : View) (R : Value → View → Prop) 
 (h :
 ∃ e1 : Int, ExtVal Tryz.prog 182 #[.float .f64 p0] (.int .u64 e1) ∧
 ∃ e2 : Int, ExtVal Tryz.prog 182 #[.float .f64 p1] (.int .u64 e2) ∧
 ∃ e3 : Nat, ExtVal Tryz.prog 221 #[.int .u64 (u64.wrap (BitVec.toNat ((BitVec.ofInt u64.bits (u64.wrap (BitVec.toNat ((BitVec.ofInt u64.bits e1) &&& ~~~(BitVec.ofInt u64.bits 9223372036854775808))))) ||| (BitVec.ofInt u64.bits (u64.wrap (BitVec.toNat ((BitVec.ofInt u64.bits e2) &&& (BitVec.ofInt u64.bits 9223372036854775808))))))))] (.float .f64 e3) ∧
 R (.float .f64 e3) V) :
 CallV Tryz.prog 259 #[.float .f64 p0, .float .f64 p1] V R :=
 calls_of_vc (Shp := Shp) hmixed Tryz.func259 (c := Tryz.f259.body.getD .skip) (args := [.float .f64 p0, .float .f64 p1]) (by kernel_rfl)
 (.seq (.reg [A 4 2]) (.seq (.reg [A 5 2, A 6 12, A 7 0, A 8 2, A 9 12, A 10 0, A 11 0, A 12 12, A 4 2]) .leaf))
 (Eq.mpr (by kernel_rfl) h)

theorem math_normalize_vc (p0 : Nat) (V : View) (R : Value → View → Prop) 
 (h :
 CallV Tryz.prog 245 #[.float .f64 p0] V fun v V1 => ∃ r1 : Nat, v = .float .f64 r1 ∧
 ((FloatKind.f64.format.order r1 4503599627370496 == some .lt) = true →
 ∃ e1 : Nat, FloatKind.f64.format.mul p0 4841369599423283200 = some e1 ∧
 R (.tuple #[.float .f64 e1, .int .i64 (-52)]) V1) ∧
 ((FloatKind.f64.format.order r1 4503599627370496 == some .lt) = false →
 R (.tuple #[.float .f64 p0, .int .i64 0]) V1)) :
 CallV Tryz.prog 286 #[.float .f64 p0] V R :=
 calls_of_vc (Shp := Shp) hmixed Tryz.func286 (c := Tryz.f286.body.getD .skip) (args := [.float .f64 p0]) (by kernel_rfl)
 (.seq (.reg [A 2 2, A 3 2]) (.seq (.seq (.reg [A 4 2, A 5 10, A 6 0]) (.cond (.seq (.reg [A 7 2, A 8 12, A 2 2, A 3 2]) .leaf) .leaf)) (.seq (.reg [A 9 2, A 2 2, A 3 2]) .leaf)))
 (Eq.mpr (by kernel_rfl) h)

theorem math_ldexp_vc (p0 : Nat) (p1 : Int) (V : View) (R : Value → View → Prop) 
 (h :
 ((FloatKind.f64.format.order p0 0 == some .eq) = true →
 R (.float .f64 p0) V) ∧
 ((FloatKind.f64.format.order p0 0 == some .eq) = false →
 CallV Tryz.prog 200 #[.float .f64 p0, .int .i64 0] V fun v V1 => ∃ r1 : Bool, v = .bool r1 ∧
 (r1 = true →
 R (.float .f64 p0) V1) ∧
 (r1 = false →
 CallV Tryz.prog 206 #[.float .f64 p0] V1 fun v V2 => ∃ r2 : Bool, v = .bool r2 ∧
 (r2 = true →
 R (.float .f64 p0) V2) ∧
 (r2 = false →
 CallV Tryz.prog 286 #[.float .f64 p0] V2 fun v V3 => ∃ (r3 : Nat) (r4 : Int), v = .tuple #[.float .f64 r3, .int .i64 r4] ∧
 ∃ e1 : Int, ExtVal Tryz.prog 182 #[.float .f64 r3] (.int .u64 e1) ∧
 ((decide (((i64.wrap ((i64.wrap (p1 + r4)) + (i64.wrap ((i64.wrap (BitVec.toNat ((BitVec.ofInt i64.bits (i64.wrap (Int.fdiv e1 (2 ^ (min (Int.toNat 52) (u64.bits)))))) &&& (BitVec.ofInt i64.bits 2047)))) - 1023)))) : Int) < (-1075))) = true →
 CallV Tryz.prog 259 #[.float .f64 0, .float .f64 r3] V3 fun v V4 => ∃ r5 : Nat, v = .float .f64 r5 ∧
 R (.float .f64 r5) V4) ∧
 ((decide (((i64.wrap ((i64.wrap (p1 + r4)) + (i64.wrap ((i64.wrap (BitVec.toNat ((BitVec.ofInt i64.bits (i64.wrap (Int.fdiv e1 (2 ^ (min (Int.toNat 52) (u64.bits)))))) &&& (BitVec.ofInt i64.bits 2047)))) - 1023)))) : Int) < (-1075))) = false →
 ((decide (((i64.wrap ((i64.wrap (p1 + r4)) + (i64.wrap ((i64.wrap (BitVec.toNat ((BitVec.ofInt i64.bits (i64.wrap (Int.fdiv e1 (2 ^ (min (Int.toNat 52) (u64.bits)))))) &&& (BitVec.ofInt i64.bits 2047)))) - 1023)))) : Int) > 1023)) = true →
 ((FloatKind.f64.format.order r3 0 == some .lt) = true →
 CallV Tryz.prog 159 #[.int .i64 (-1)] V3 fun v V5 => ∃ r6 : Nat, v = .float .f64 r6 ∧
 R (.float .f64 r6) V5) ∧
 ((FloatKind.f64.format.order r3 0 == some .lt) = false →
 CallV Tryz.prog 159 #[.int .i64 1] V3 fun v V6 => ∃ r7 : Nat, v = .float .f64 r7 ∧
 R (.float .f64 r7) V6)) ∧
 ((decide (((i64.wrap ((i64.wrap (p1 + r4)) + (i64.wrap ((i64.wrap (BitVec.toNat ((BitVec.ofInt i64.bits (i64.wrap (Int.fdiv e1 (2 ^ (min (Int.toNat 52) (u64.bits)))))) &&& (BitVec.ofInt i64.bits 2047)))) - 1023)))) : Int) > 1023)) = false →
 ((decide (((i64.wrap ((i64.wrap (p1 + r4)) + (i64.wrap ((i64.wrap (BitVec.toNat ((BitVec.ofInt i64.bits (i64.wrap (Int.fdiv e1 (2 ^ (min (Int.toNat 52) (u64.bits)))))) &&& (BitVec.ofInt i64.bits 2047)))) - 1023)))) : Int) < (-1022))) = true →
 ∃ e2 : Nat, ExtVal Tryz.prog 221 #[.int .u64 (u64.wrap (BitVec.toNat ((BitVec.ofInt u64.bits (u64.wrap (BitVec.toNat ((BitVec.ofInt u64.bits e1) &&& ~~~(BitVec.ofInt u64.bits 9218868437227405312))))) ||| (BitVec.ofInt u64.bits (u64.wrap ((u64.wrap (i64.wrap ((i64.wrap ((i64.wrap ((i64.wrap (p1 + r4)) + (i64.wrap ((i64.wrap (BitVec.toNat ((BitVec.ofInt i64.bits (i64.wrap (Int.fdiv e1 (2 ^ (min (Int.toNat 52) (u64.bits)))))) &&& (BitVec.ofInt i64.bits 2047)))) - 1023)))) + 53)) + 1023))) * 2 ^ (min (Int.toNat 52) (u64.bits))))))))] (.float .f64 e2) ∧
 ∃ e3 : Nat, FloatKind.f64.format.mul 4368491638549381120 e2 = some e3 ∧
 R (.float .f64 e3) V3) ∧
 ((decide (((i64.wrap ((i64.wrap (p1 + r4)) + (i64.wrap ((i64.wrap (BitVec.toNat ((BitVec.ofInt i64.bits (i64.wrap (Int.fdiv e1 (2 ^ (min (Int.toNat 52) (u64.bits)))))) &&& (BitVec.ofInt i64.bits 2047)))) - 1023)))) : Int) < (-1022))) = false →
 ∃ e4 : Nat, ExtVal Tryz.prog 221 #[.int .u64 (u64.wrap (BitVec.toNat ((BitVec.ofInt u64.bits (u64.wrap (BitVec.toNat ((BitVec.ofInt u64.bits e1) &&& ~~~(BitVec.ofInt u64.bits 9218868437227405312))))) ||| (BitVec.ofInt u64.bits (u64.wrap ((u64.wrap (i64.wrap ((i64.wrap ((i64.wrap (p1 + r4)) + (i64.wrap ((i64.wrap (BitVec.toNat ((BitVec.ofInt i64.bits (i64.wrap (Int.fdiv e1 (2 ^ (min (Int.toNat 52) (u64.bits)))))) &&& (BitVec.ofInt i64.bits 2047)))) - 1023)))) + 1023))) * 2 ^ (min (Int.toNat 52) (u64.bits))))))))] (.float .f64 e4) ∧
 ∃ e5 : Nat, FloatKind.f64.format.mul 4607182418800017408 e4 = some e5 ∧
 R (.float .f64 e5) V3))))))) :
 CallV Tryz.prog 283 #[.float .f64 p0, .int .i64 p1] V R :=
 calls_of_vc (Shp := Shp) hmixed Tryz.func283 (c := Tryz.f283.body.getD .skip) (args := [.float .f64 p0, .int .i64 p1]) (by kernel_rfl)
 (.seq (.reg [A 4 2]) (.seq (.block (.seq (.reg [A 9 2, A 10 0, A 8 2]) (.cond (.seq (.reg [A 11 2, A 4 2]) .leaf) (.seq (.reg [A 13 2, A 14 10, ⟨15, 2, true⟩, A 16 2, A 17 10, A 18 20, A 12 2]) (.cond (.seq (.reg [A 19 2, A 4 2]) .leaf) .leaf))))) (.seq (.reg [A 21 2, A 22 10, A 20 2, A 23 0, A 24 0, A 0 2, A 5 2]) (.seq (.reg [A 25 2, A 26 2, A 27 0, A 1 2]) (.seq (.reg [A 28 2, A 29 12, A 6 2]) (.seq (.reg [A 30 2, A 31 2, A 32 0, A 33 0, A 34 0, A 35 0, A 36 0, A 1 2]) (.seq (.seq (.reg [A 37 2, A 38 0]) (.cond (.seq (.reg [A 39 2, A 40 10, A 4 2]) .leaf) .leaf)) (.seq (.seq (.reg [A 41 2, A 42 0]) (.cond (.seq (.seq (.reg [A 43 2, A 44 0]) (.cond (.seq (.reg [A 45 10, A 4 2]) .leaf) .leaf)) (.seq (.reg [A 46 10, A 4 2]) .leaf)) .leaf)) (.seq (.reg [A 7 2]) (.seq (.seq (.reg [A 47 2, A 48 0]) (.cond (.seq (.reg [A 49 2, A 50 0, A 1 2]) (.reg [A 7 2])) .leaf)) (.seq (.reg [A 51 2, A 52 0, A 6 2]) (.seq (.reg [A 53 2, A 54 2, A 55 0, A 56 0, A 57 0, A 58 0, A 6 2]) (.seq (.reg [A 59 2, A 60 2, A 61 12, A 62 12, A 4 2]) .leaf)))))))))))))
 (Eq.mpr (by kernel_rfl) h)

theorem math_Ldexp_vc (p0 : Nat) (p1 : Int) (V : View) (R : Value → View → Prop) 
 (h :
 (false = true →
 CallV Tryz.prog 282 #[.float .f64 p0, .int .i64 p1] V fun v V1 => ∃ r1 : Nat, v = .float .f64 r1 ∧
 R (.float .f64 r1) V1) ∧
 (false = false →
 CallV Tryz.prog 283 #[.float .f64 p0, .int .i64 p1] V fun v V2 => ∃ r2 : Nat, v = .float .f64 r2 ∧
 R (.float .f64 r2) V2)) :
 CallV Tryz.prog 257 #[.float .f64 p0, .int .i64 p1] V R :=
 calls_of_vc (Shp := Shp) hmixed Tryz.func257 (c := Tryz.f257.body.getD .skip) (args := [.float .f64 p0, .int .i64 p1]) (by kernel_rfl)
 (.seq (.reg [A 4 2]) (.seq (.cond (.seq (.reg [A 5 2, A 6 2, A 7 10, A 4 2]) .leaf) .leaf) (.seq (.reg [A 8 2, A 9 2, A 10 10, A 4 2]) .leaf)))
 (Eq.mpr (by kernel_rfl) h)

end Go.Proofs.YtkibfmnkkiakoaaGreat
