/- Part of the proof; it has the parts GRb2. -/
import Derived.Test.YtkibfmnkkiakoaaGreatGRb1
set_option maxRecDepth 100000
set_option maxHeartbeats 4000000
namespace Go.Proofs.YtkibfmnkkiakoaaGreat
open Go Go.Vc Go.Proofs
open Go.IntKind (i8 i16 i32 i64 u8 u16 u32 u64)

theorem ref2_at_vc (p0 : NumV) (V : View) (R : Value → View → Prop) 
 (h :
 R ((BdV.mk 0 p0).val) V) :
 CallV Tryz.prog 114 #[p0.val] V R :=
 calls_of_vc (Shp := Shp) hmixed Tryz.func114 (c := Tryz.f114.body.getD .skip) (args := [p0.val]) (by kernel_rfl)
 (.seq (.reg [A 1 3, A 2 3]) (.seq (.reg [A 1 4, A 4 0, A 2 6]) .leaf))
 (Eq.mpr (by kernel_rfl) h)

theorem ref2_of_vc (p0 : Nat) (V : View) (R : Value → View → Prop) 
 (h :
 CallV Tryz.prog 200 #[.float .f64 p0, .int .i64 1] V fun v V1 => ∃ r1 : Bool, v = .bool r1 ∧
 (r1 = true →
 CallV Tryz.prog 108 #[.int .i64 0] V1 fun v V2 => ∃ r2 : NumV, v = r2.val ∧
 R ((BdV.mk 1 r2).val) V2) ∧
 (r1 = false →
 CallV Tryz.prog 200 #[.float .f64 p0, .int .i64 (-1)] V1 fun v V3 => ∃ r3 : Bool, v = .bool r3 ∧
 (r3 = true →
 CallV Tryz.prog 108 #[.int .i64 0] V3 fun v V4 => ∃ r4 : NumV, v = r4.val ∧
 R ((BdV.mk (-1) r4).val) V4) ∧
 (r3 = false →
 CallV Tryz.prog 201 #[.float .f64 p0] V3 fun v V5 => ∃ (r5 : NumV) (r6 : Int), v = .tuple #[r5.val, .int .i64 r6] ∧
 CallV Tryz.prog 114 #[r5.val] V5 fun v V6 => ∃ r7 : BdV, v = r7.val ∧
 R (r7.val) V6))) :
 CallV Tryz.prog 119 #[.float .f64 p0] V R :=
 calls_of_vc (Shp := Shp) hmixed Tryz.func119 (c := Tryz.f119.body.getD .skip) (args := [.float .f64 p0]) (by kernel_rfl)
 (.seq (.reg [A 2 3]) (.seq (.seq (.reg [A 5 2, A 6 10]) (.cond (.seq (.reg [A 7 10, A 8 0, A 2 6]) .leaf) .leaf)) (.seq (.seq (.reg [A 9 2, A 10 10]) (.cond (.seq (.reg [A 11 10, A 12 0, A 2 6]) .leaf) .leaf)) (.seq (.reg [A 14 2, A 15 10, A 13 2, A 16 0, A 17 0, A 3 3, A 3 6, A 4 2]) (.seq (.reg [A 3 4, A 19 10, A 2 6]) .leaf)))))
 (Eq.mpr (by kernel_rfl) h)

theorem ref2_cmp_vc (p0 : BdV) (p1 : BdV) (V : View) (R : Value → View → Prop) 
 (h :
 (((p0.inf : Int) != p1.inf) = true →
 ((decide ((p0.inf : Int) < p1.inf)) = true →
 R (.int .i64 (-1)) V) ∧
 ((decide ((p0.inf : Int) < p1.inf)) = false →
 R (.int .i64 1) V)) ∧
 (((p0.inf : Int) != p1.inf) = false →
 (((p0.inf : Int) != 0) = true →
 R (.int .i64 0) V) ∧
 (((p0.inf : Int) != 0) = false →
 CallV Tryz.prog 199 #[p0.x.val, p1.x.val] V fun v V1 => ∃ r1 : Int, v = .int .i64 r1 ∧
 R (.int .i64 r1) V1))) :
 CallV Tryz.prog 118 #[p0.val, p1.val] V R :=
 calls_of_vc (Shp := Shp) hmixed Tryz.func118 (c := Tryz.f118.body.getD .skip) (args := [p0.val, p1.val]) (by kernel_rfl)
 (.seq (.reg [A 2 3, A 3 3, A 4 2]) (.seq (.seq (.reg [A 5 7, A 2 4, A 7 7, A 3 4, A 9 0]) (.cond (.seq (.seq (.reg [A 10 7, A 2 4, A 12 7, A 3 4, A 14 0]) (.cond (.seq (.reg [A 4 2]) .leaf) .leaf)) (.seq (.reg [A 4 2]) .leaf)) .leaf)) (.seq (.seq (.reg [A 15 7, A 2 4, A 17 0]) (.cond (.seq (.reg [A 4 2]) .leaf) .leaf)) (.seq (.reg [A 18 7, A 2 4, A 20 7, A 3 4, A 22 10, A 4 2]) .leaf))))
 (Eq.mpr (by kernel_rfl) h)

theorem ref2_tight_vc (p0 : BdV) (p1 : BdV) (V : View) (R : Value → View → Prop) 
 (h :
 CallV Tryz.prog 159 #[.int .i64 (-1)] V fun v V1 => ∃ r1 : Nat, v = .float .f64 r1 ∧
 CallV Tryz.prog 159 #[.int .i64 1] V1 fun v V2 => ∃ r2 : Nat, v = .float .f64 r2 ∧
 (((p0.inf : Int) == 0) = true →
 CallV Tryz.prog 189 #[p0.x.val] V2 fun v V3 => ∃ r3 : Nat, v = .float .f64 r3 ∧
 (((p1.inf : Int) == 0) = true →
 CallV Tryz.prog 190 #[p1.x.val] V3 fun v V4 => ∃ r4 : Nat, v = .float .f64 r4 ∧
 R ((SpV.mk r3 r4).val) V4) ∧
 (((p1.inf : Int) == 0) = false →
 R ((SpV.mk r3 r2).val) V3)) ∧
 (((p0.inf : Int) == 0) = false →
 (((p1.inf : Int) == 0) = true →
 CallV Tryz.prog 190 #[p1.x.val] V2 fun v V5 => ∃ r5 : Nat, v = .float .f64 r5 ∧
 R ((SpV.mk r1 r5).val) V5) ∧
 (((p1.inf : Int) == 0) = false →
 R ((SpV.mk r1 r2).val) V2))) :
 CallV Tryz.prog 104 #[p0.val, p1.val] V R :=
 calls_of_vc (Shp := Shp) hmixed Tryz.func104 (c := Tryz.f104.body.getD .skip) (args := [p0.val, p1.val]) (by kernel_rfl)
 (.seq (.reg [A 2 3, A 3 3, A 4 3]) (.seq (.reg [A 6 10, A 7 10, A 8 0, A 5 3, A 5 6]) (.seq (.seq (.reg [A 9 7, A 2 4, A 11 0]) (.cond (.reg [A 12 7, A 2 4, A 14 10, A 15 7, A 5 6]) .leaf)) (.seq (.seq (.reg [A 16 7, A 3 4, A 18 0]) (.cond (.reg [A 19 7, A 3 4, A 21 10, A 22 7, A 5 6]) .leaf)) (.seq (.reg [A 5 4, A 4 6]) .leaf)))))
 (Eq.mpr (by kernel_rfl) h)

end Go.Proofs.YtkibfmnkkiakoaaGreat
