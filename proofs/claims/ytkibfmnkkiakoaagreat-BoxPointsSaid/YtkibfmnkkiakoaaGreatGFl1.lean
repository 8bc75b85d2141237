/- Part of the proof; it has the parts GFl1. -/
import Derived.Test.YtkibfmnkkiakoaaGreatGFl2
set_option maxRecDepth 100000
set_option maxHeartbeats 4000000
namespace Go.Proofs.YtkibfmnkkiakoaaGreat
open Go Go.Vc Go.Proofs

/-- math.IsNaN -/
theorem math_IsNaN_vc (p0 : Nat) (V : View) (R : Value → View → Prop) 
  (h :
    R (.bool (FloatKind.f64.format.order p0 p0 != some .eq)) V) :
  CallV Tryz.prog 206 #[.float .f64 p0] V R :=
  calls_of_vc (Shp := Shp) hmixed Tryz.func206 (c := Tryz.f206.body.getD .skip) (args := [.float .f64 p0]) (by kernel_rfl)
    (.seq (.reg [⟨2, 9, false⟩]) (.seq (.reg [⟨3, 2, false⟩, ⟨4, 2, false⟩, ⟨5, 0, false⟩, ⟨2, 2, false⟩]) .leaf))
    (Eq.mpr (by kernel_rfl) h)

/-- math.Abs -/
theorem math_Abs_vc (p0 : Nat) (V : View) (R : Value → View → Prop) 
  (h :
    ∃ e1 : Int, ExtVal Tryz.prog 182 #[.float .f64 p0] (.int .u64 e1) ∧ -- math.Float64bits
    ∃ e2 : Nat, ExtVal Tryz.prog 221 #[.int .u64 (IntKind.u64.wrap (BitVec.toNat ((BitVec.ofInt IntKind.u64.bits e1) &&& ~~~(BitVec.ofInt IntKind.u64.bits 9223372036854775808))))] (.float .f64 e2) ∧ -- math.Float64frombits
    R (.float .f64 e2) V) :
  CallV Tryz.prog 245 #[.float .f64 p0] V R :=
  calls_of_vc (Shp := Shp) hmixed Tryz.func245 (c := Tryz.f245.body.getD .skip) (args := [.float .f64 p0]) (by kernel_rfl)
    (.seq (.reg [⟨2, 2, false⟩]) (.seq (.reg [⟨3, 2, false⟩, ⟨4, 12, false⟩, ⟨5, 0, false⟩, ⟨6, 12, false⟩, ⟨2, 2, false⟩]) .leaf))
    (Eq.mpr (by kernel_rfl) h)

/-- math.IsInf -/
theorem math_IsInf_vc (p0 : Nat) (p1 : Int) (V : View) (R : Value → View → Prop) 
  (h :
    (((p1 : Int) == 0) = true →
      CallV Tryz.prog 245 #[.float .f64 p0] V fun v V1 => ∃ r1 : Nat, v = .float .f64 r1 ∧ -- math.Abs
      R (.bool (FloatKind.f64.format.order r1 9218868437227405311 == some .gt)) V1) ∧
    (((p1 : Int) == 0) = false →
      ((decide ((p1 : Int) < 0)) = true →
        R (.bool (FloatKind.f64.format.order (Op.negFloat .f64 p0) 9218868437227405311 == some .gt)) V) ∧
      ((decide ((p1 : Int) < 0)) = false →
        R (.bool (FloatKind.f64.format.order p0 9218868437227405311 == some .gt)) V))) :
  CallV Tryz.prog 200 #[.float .f64 p0, .int .i64 p1] V R :=
  calls_of_vc (Shp := Shp) hmixed Tryz.func200 (c := Tryz.f200.body.getD .skip) (args := [.float .f64 p0, .int .i64 p1]) (by kernel_rfl)
    (.seq (.reg [⟨4, 9, false⟩]) (.seq (.seq (.reg [⟨5, 2, false⟩, ⟨6, 0, false⟩]) (.cond (.reg [⟨7, 2, false⟩, ⟨8, 10, false⟩, ⟨0, 2, false⟩]) (.seq (.reg [⟨9, 2, false⟩, ⟨10, 0, false⟩]) (.cond (.reg [⟨11, 2, false⟩, ⟨12, 0, false⟩, ⟨0, 2, false⟩]) .leaf)))) (.seq (.reg [⟨13, 2, false⟩, ⟨14, 0, false⟩, ⟨4, 2, false⟩]) .leaf)))
    (Eq.mpr (by kernel_rfl) h)

/-- math.Inf -/
theorem math_Inf_vc (p0 : Int) (V : View) (R : Value → View → Prop) 
  (h :
    ((decide ((p0 : Int) ≥ 0)) = true →
      ∃ e1 : Nat, ExtVal Tryz.prog 221 #[.int .u64 9218868437227405312] (.float .f64 e1) ∧ -- math.Float64frombits
    R (.float .f64 e1) V) ∧
    ((decide ((p0 : Int) ≥ 0)) = false →
      ∃ e2 : Nat, ExtVal Tryz.prog 221 #[.int .u64 18442240474082181120] (.float .f64 e2) ∧ -- math.Float64frombits
    R (.float .f64 e2) V)) :
  CallV Tryz.prog 159 #[.int .i64 p0] V R :=
  calls_of_vc (Shp := Shp) hmixed Tryz.func159 (c := Tryz.f159.body.getD .skip) (args := [.int .i64 p0]) (by kernel_rfl)
    (.seq (.reg [⟨2, 2, false⟩]) (.seq (.reg [⟨3, 2, false⟩]) (.seq (.seq (.reg [⟨4, 2, false⟩, ⟨5, 0, false⟩]) (.cond (.reg [⟨3, 2, false⟩]) (.reg [⟨3, 2, false⟩]))) (.seq (.reg [⟨6, 2, false⟩, ⟨7, 12, false⟩, ⟨2, 2, false⟩]) .leaf))))
    (Eq.mpr (by kernel_rfl) h)

/-- math.normalize -/
theorem math_normalize_vc (p0 : Nat) (V : View) (R : Value → View → Prop) 
  (h :
    CallV Tryz.prog 245 #[.float .f64 p0] V fun v V1 => ∃ r1 : Nat, v = .float .f64 r1 ∧ -- math.Abs
    ((FloatKind.f64.format.order r1 4503599627370496 == some .lt) = true →
      ∃ e1 : Nat, FloatKind.f64.format.mul p0 4841369599423283200 = some e1 ∧
      R (.tuple #[.float .f64 e1, .int .i64 (-52)]) V1) ∧
    ((FloatKind.f64.format.order r1 4503599627370496 == some .lt) = false →
      R (.tuple #[.float .f64 p0, .int .i64 0]) V1)) :
  CallV Tryz.prog 286 #[.float .f64 p0] V R :=
  calls_of_vc (Shp := Shp) hmixed Tryz.func286 (c := Tryz.f286.body.getD .skip) (args := [.float .f64 p0]) (by kernel_rfl)
    (.seq (.reg [⟨2, 2, false⟩, ⟨3, 2, false⟩]) (.seq (.seq (.reg [⟨4, 2, false⟩, ⟨5, 10, false⟩, ⟨6, 0, false⟩]) (.cond (.seq (.reg [⟨7, 2, false⟩, ⟨8, 12, false⟩, ⟨2, 2, false⟩, ⟨3, 2, false⟩]) .leaf) .leaf)) (.seq (.reg [⟨9, 2, false⟩, ⟨2, 2, false⟩, ⟨3, 2, false⟩]) .leaf)))
    (Eq.mpr (by kernel_rfl) h)

/-- math.ldexp -/
theorem math_ldexp_vc (p0 : Nat) (p1 : Int) (V : View) (R : Value → View → Prop) 
  (h :
    ((FloatKind.f64.format.order p0 0 == some .eq) = true →
      R (.float .f64 p0) V) ∧
    ((FloatKind.f64.format.order p0 0 == some .eq) = false →
      CallV Tryz.prog 200 #[.float .f64 p0, .int .i64 0] V fun v V1 => ∃ r1 : Bool, v = .bool r1 ∧ -- math.IsInf
      (r1 = true →
      R (.float .f64 p0) V1) ∧
      (r1 = false →
      CallV Tryz.prog 206 #[.float .f64 p0] V1 fun v V2 => ∃ r2 : Bool, v = .bool r2 ∧ -- math.IsNaN
      (r2 = true →
        R (.float .f64 p0) V2) ∧
      (r2 = false →
        CallV Tryz.prog 286 #[.float .f64 p0] V2 fun v V3 => ∃ (r3 : Nat) (r4 : Int), v = .tuple #[.float .f64 r3, .int .i64 r4] ∧ -- math.normalize
    ∃ e1 : Int, ExtVal Tryz.prog 182 #[.float .f64 r3] (.int .u64 e1) ∧ -- math.Float64bits
    ((decide (((IntKind.i64.wrap ((IntKind.i64.wrap (p1 + r4)) + (IntKind.i64.wrap ((IntKind.i64.wrap (BitVec.toNat ((BitVec.ofInt IntKind.i64.bits (IntKind.i64.wrap (Int.fdiv e1 (2 ^ (min (Int.toNat 52) (IntKind.u64.bits)))))) &&& (BitVec.ofInt IntKind.i64.bits 2047)))) - 1023)))) : Int) < (-1075))) = true →
      CallV Tryz.prog 259 #[.float .f64 0, .float .f64 r3] V3 fun v V4 => ∃ r5 : Nat, v = .float .f64 r5 ∧ -- math.Copysign
      R (.float .f64 r5) V4) ∧
    ((decide (((IntKind.i64.wrap ((IntKind.i64.wrap (p1 + r4)) + (IntKind.i64.wrap ((IntKind.i64.wrap (BitVec.toNat ((BitVec.ofInt IntKind.i64.bits (IntKind.i64.wrap (Int.fdiv e1 (2 ^ (min (Int.toNat 52) (IntKind.u64.bits)))))) &&& (BitVec.ofInt IntKind.i64.bits 2047)))) - 1023)))) : Int) < (-1075))) = false →
      ((decide (((IntKind.i64.wrap ((IntKind.i64.wrap (p1 + r4)) + (IntKind.i64.wrap ((IntKind.i64.wrap (BitVec.toNat ((BitVec.ofInt IntKind.i64.bits (IntKind.i64.wrap (Int.fdiv e1 (2 ^ (min (Int.toNat 52) (IntKind.u64.bits)))))) &&& (BitVec.ofInt IntKind.i64.bits 2047)))) - 1023)))) : Int) > 1023)) = true →
      ((FloatKind.f64.format.order r3 0 == some .lt) = true →
        CallV Tryz.prog 159 #[.int .i64 (-1)] V3 fun v V5 => ∃ r6 : Nat, v = .float .f64 r6 ∧ -- math.Inf
        R (.float .f64 r6) V5) ∧
      ((FloatKind.f64.format.order r3 0 == some .lt) = false →
        CallV Tryz.prog 159 #[.int .i64 1] V3 fun v V6 => ∃ r7 : Nat, v = .float .f64 r7 ∧ -- math.Inf
      R (.float .f64 r7) V6)) ∧
    ((decide (((IntKind.i64.wrap ((IntKind.i64.wrap (p1 + r4)) + (IntKind.i64.wrap ((IntKind.i64.wrap (BitVec.toNat ((BitVec.ofInt IntKind.i64.bits (IntKind.i64.wrap (Int.fdiv e1 (2 ^ (min (Int.toNat 52) (IntKind.u64.bits)))))) &&& (BitVec.ofInt IntKind.i64.bits 2047)))) - 1023)))) : Int) > 1023)) = false →
      ((decide (((IntKind.i64.wrap ((IntKind.i64.wrap (p1 + r4)) + (IntKind.i64.wrap ((IntKind.i64.wrap (BitVec.toNat ((BitVec.ofInt IntKind.i64.bits (IntKind.i64.wrap (Int.fdiv e1 (2 ^ (min (Int.toNat 52) (IntKind.u64.bits)))))) &&& (BitVec.ofInt IntKind.i64.bits 2047)))) - 1023)))) : Int) < (-1022))) = true →
      ∃ e2 : Nat, ExtVal Tryz.prog 221 #[.int .u64 (IntKind.u64.wrap (BitVec.toNat ((BitVec.ofInt IntKind.u64.bits (IntKind.u64.wrap (BitVec.toNat ((BitVec.ofInt IntKind.u64.bits e1) &&& ~~~(BitVec.ofInt IntKind.u64.bits 9218868437227405312))))) ||| (BitVec.ofInt IntKind.u64.bits (IntKind.u64.wrap ((IntKind.u64.wrap (IntKind.i64.wrap ((IntKind.i64.wrap ((IntKind.i64.wrap ((IntKind.i64.wrap (p1 + r4)) + (IntKind.i64.wrap ((IntKind.i64.wrap (BitVec.toNat ((BitVec.ofInt IntKind.i64.bits (IntKind.i64.wrap (Int.fdiv e1 (2 ^ (min (Int.toNat 52) (IntKind.u64.bits)))))) &&& (BitVec.ofInt IntKind.i64.bits 2047)))) - 1023)))) + 53)) + 1023))) * 2 ^ (min (Int.toNat 52) (IntKind.u64.bits))))))))] (.float .f64 e2) ∧ -- math.Float64frombits
    ∃ e3 : Nat, FloatKind.f64.format.mul 4368491638549381120 e2 = some e3 ∧
    R (.float .f64 e3) V3) ∧
    ((decide (((IntKind.i64.wrap ((IntKind.i64.wrap (p1 + r4)) + (IntKind.i64.wrap ((IntKind.i64.wrap (BitVec.toNat ((BitVec.ofInt IntKind.i64.bits (IntKind.i64.wrap (Int.fdiv e1 (2 ^ (min (Int.toNat 52) (IntKind.u64.bits)))))) &&& (BitVec.ofInt IntKind.i64.bits 2047)))) - 1023)))) : Int) < (-1022))) = false →
      ∃ e4 : Nat, ExtVal Tryz.prog 221 #[.int .u64 (IntKind.u64.wrap (BitVec.toNat ((BitVec.ofInt IntKind.u64.bits (IntKind.u64.wrap (BitVec.toNat ((BitVec.ofInt IntKind.u64.bits e1) &&& ~~~(BitVec.ofInt IntKind.u64.bits 9218868437227405312))))) ||| (BitVec.ofInt IntKind.u64.bits (IntKind.u64.wrap ((IntKind.u64.wrap (IntKind.i64.wrap ((IntKind.i64.wrap ((IntKind.i64.wrap (p1 + r4)) + (IntKind.i64.wrap ((IntKind.i64.wrap (BitVec.toNat ((BitVec.ofInt IntKind.i64.bits (IntKind.i64.wrap (Int.fdiv e1 (2 ^ (min (Int.toNat 52) (IntKind.u64.bits)))))) &&& (BitVec.ofInt IntKind.i64.bits 2047)))) - 1023)))) + 1023))) * 2 ^ (min (Int.toNat 52) (IntKind.u64.bits))))))))] (.float .f64 e4) ∧ -- math.Float64frombits
    ∃ e5 : Nat, FloatKind.f64.format.mul 4607182418800017408 e4 = some e5 ∧
    R (.float .f64 e5) V3))))))) :
  CallV Tryz.prog 283 #[.float .f64 p0, .int .i64 p1] V R :=
  calls_of_vc (Shp := Shp) hmixed Tryz.func283 (c := Tryz.f283.body.getD .skip) (args := [.float .f64 p0, .int .i64 p1]) (by kernel_rfl)
    (.seq (.reg [⟨4, 2, false⟩]) (.seq (.block (.seq (.reg [⟨9, 2, false⟩, ⟨10, 0, false⟩, ⟨8, 2, false⟩]) (.cond (.seq (.reg [⟨11, 2, false⟩, ⟨4, 2, false⟩]) .leaf) (.seq (.reg [⟨13, 2, false⟩, ⟨14, 10, false⟩, ⟨15, 2, true⟩, ⟨16, 2, false⟩, ⟨17, 10, false⟩, ⟨18, 20, false⟩, ⟨12, 2, false⟩]) (.cond (.seq (.reg [⟨19, 2, false⟩, ⟨4, 2, false⟩]) .leaf) .leaf))))) (.seq (.reg [⟨21, 2, false⟩, ⟨22, 10, false⟩, ⟨20, 2, false⟩, ⟨23, 0, false⟩, ⟨24, 0, false⟩, ⟨0, 2, false⟩, ⟨5, 2, false⟩]) (.seq (.reg [⟨25, 2, false⟩, ⟨26, 2, false⟩, ⟨27, 0, false⟩, ⟨1, 2, false⟩]) (.seq (.reg [⟨28, 2, false⟩, ⟨29, 12, false⟩, ⟨6, 2, false⟩]) (.seq (.reg [⟨30, 2, false⟩, ⟨31, 2, false⟩, ⟨32, 0, false⟩, ⟨33, 0, false⟩, ⟨34, 0, false⟩, ⟨35, 0, false⟩, ⟨36, 0, false⟩, ⟨1, 2, false⟩]) (.seq (.seq (.reg [⟨37, 2, false⟩, ⟨38, 0, false⟩]) (.cond (.seq (.reg [⟨39, 2, false⟩, ⟨40, 10, false⟩, ⟨4, 2, false⟩]) .leaf) .leaf)) (.seq (.seq (.reg [⟨41, 2, false⟩, ⟨42, 0, false⟩]) (.cond (.seq (.seq (.reg [⟨43, 2, false⟩, ⟨44, 0, false⟩]) (.cond (.seq (.reg [⟨45, 10, false⟩, ⟨4, 2, false⟩]) .leaf) .leaf)) (.seq (.reg [⟨46, 10, false⟩, ⟨4, 2, false⟩]) .leaf)) .leaf)) (.seq (.reg [⟨7, 2, false⟩]) (.seq (.seq (.reg [⟨47, 2, false⟩, ⟨48, 0, false⟩]) (.cond (.seq (.reg [⟨49, 2, false⟩, ⟨50, 0, false⟩, ⟨1, 2, false⟩]) (.reg [⟨7, 2, false⟩])) .leaf)) (.seq (.reg [⟨51, 2, false⟩, ⟨52, 0, false⟩, ⟨6, 2, false⟩]) (.seq (.reg [⟨53, 2, false⟩, ⟨54, 2, false⟩, ⟨55, 0, false⟩, ⟨56, 0, false⟩, ⟨57, 0, false⟩, ⟨58, 0, false⟩, ⟨6, 2, false⟩]) (.seq (.reg [⟨59, 2, false⟩, ⟨60, 2, false⟩, ⟨61, 12, false⟩, ⟨62, 12, false⟩, ⟨4, 2, false⟩]) .leaf)))))))))))))
    (Eq.mpr (by kernel_rfl) h)

/-- math.Ldexp -/
theorem math_Ldexp_vc (p0 : Nat) (p1 : Int) (V : View) (R : Value → View → Prop) 
  (h :
    (false = true →
      CallV Tryz.prog 282 #[.float .f64 p0, .int .i64 p1] V fun v V1 => ∃ r1 : Nat, v = .float .f64 r1 ∧ -- math.archLdexp
      R (.float .f64 r1) V1) ∧
    (false = false →
      CallV Tryz.prog 283 #[.float .f64 p0, .int .i64 p1] V fun v V2 => ∃ r2 : Nat, v = .float .f64 r2 ∧ -- math.ldexp
    R (.float .f64 r2) V2)) :
  CallV Tryz.prog 257 #[.float .f64 p0, .int .i64 p1] V R :=
  calls_of_vc (Shp := Shp) hmixed Tryz.func257 (c := Tryz.f257.body.getD .skip) (args := [.float .f64 p0, .int .i64 p1]) (by kernel_rfl)
    (.seq (.reg [⟨4, 2, false⟩]) (.seq (.cond (.seq (.reg [⟨5, 2, false⟩, ⟨6, 2, false⟩, ⟨7, 10, false⟩, ⟨4, 2, false⟩]) .leaf) .leaf) (.seq (.reg [⟨8, 2, false⟩, ⟨9, 2, false⟩, ⟨10, 10, false⟩, ⟨4, 2, false⟩]) .leaf)))
    (Eq.mpr (by kernel_rfl) h)

end Go.Proofs.YtkibfmnkkiakoaaGreat
