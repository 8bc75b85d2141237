/- Part of the proof; it has the parts GSc4. -/
import Derived.Test.YtefkpimcffofaaaGreatGSc3
set_option maxRecDepth 100000
set_option maxHeartbeats 4000000
namespace Go.Proofs.YtefkpimcffofaaaGreat
open Go Go.Vc Go.Proofs
open Go.IntKind (i8 i16 i32 i64 u8 u16 u32 u64)

theorem scan_length_vc (p0 : Int) (V : View) (R : Value → View → Prop) 
 (h :
 ((decide ((p0 : Int) ≥ 1)) = true →
 ((decide ((p0 : Int) ≤ 64)) = true →
 R (.bool (((i64.wrap (BitVec.toNat ((BitVec.ofInt i64.bits p0) &&& (BitVec.ofInt i64.bits (i64.wrap (p0 - 1)))))) : Int) == 0)) V) ∧
 ((decide ((p0 : Int) ≤ 64)) = false →
 R (.bool false) V)) ∧
 ((decide ((p0 : Int) ≥ 1)) = false →
 R (.bool false) V)) :
 CallV Tryz.prog 270 #[.int .i64 p0] V R :=
 calls_of_vc (Shp := Shp) hmixed Tryz.func270 (c := Tryz.f270.body.getD .skip) (args := [.int .i64 p0]) (by kernel_rfl)
 (.seq (.reg [A 2 9]) (.seq (.reg [A 3 2, A 4 0, ⟨5, 2, true⟩, A 6 2, A 7 0, A 8 20, ⟨9, 2, true⟩, A 10 2, A 11 2, A 12 0, A 13 0, A 14 0, A 15 20, A 2 2]) .leaf))
 (Eq.mpr (by kernel_rfl) h)

theorem scan_order_vc (p0 : Int) (p1 : Int) (V : View) (R : Value → View → Prop) 
 (h :
 ((decide (((i64.wrap (2 * p1)) : Int) < p0)) = true →
 R (.int .i64 p1) V) ∧
 ((decide (((i64.wrap (2 * p1)) : Int) < p0)) = false →
 R (.int .i64 (i64.wrap (p1 - p0))) V)) :
 CallV Tryz.prog 271 #[.int .i64 p0, .int .i64 p1] V R :=
 calls_of_vc (Shp := Shp) hmixed Tryz.func271 (c := Tryz.f271.body.getD .skip) (args := [.int .i64 p0, .int .i64 p1]) (by kernel_rfl)
 (.seq (.reg [A 4 2]) (.seq (.seq (.reg [A 5 2, A 6 0, A 7 2, A 8 0]) (.cond (.seq (.reg [A 9 2, A 4 2]) .leaf) .leaf)) (.seq (.reg [A 10 2, A 11 2, A 12 0, A 4 2]) .leaf)))
 (Eq.mpr (by kernel_rfl) h)

theorem scan_Order_vc (p0 : Int) (p1 : Int) (V : View) (R : Value → View → Prop) 
 (h :
 CallV Tryz.prog 270 #[.int .i64 p0] V fun v V1 => ∃ r1 : Bool, v = .bool r1 ∧
 ((!r1) = true →
 R (.tuple #[.int .i64 0, .int .i64 4]) V1) ∧
 ((!r1) = false →
 ((decide ((p1 : Int) < 0)) = true →
 R (.tuple #[.int .i64 0, .int .i64 1]) V1) ∧
 ((decide ((p1 : Int) < 0)) = false →
 ((decide ((p1 : Int) ≥ p0)) = true →
 R (.tuple #[.int .i64 0, .int .i64 1]) V1) ∧
 ((decide ((p1 : Int) ≥ p0)) = false →
 CallV Tryz.prog 271 #[.int .i64 p0, .int .i64 p1] V1 fun v V2 => ∃ r2 : Int, v = .int .i64 r2 ∧
 R (.tuple #[.int .i64 r2, .int .i64 0]) V2)))) :
 CallV Tryz.prog 165 #[.int .i64 p0, .int .i64 p1] V R :=
 calls_of_vc (Shp := Shp) hmixed Tryz.func165 (c := Tryz.f165.body.getD .skip) (args := [.int .i64 p0, .int .i64 p1]) (by kernel_rfl)
 (.seq (.reg [A 4 2, A 5 2]) (.seq (.seq (.reg [A 6 2, A 7 10, A 8 20]) (.cond (.seq (.reg [A 4 2, A 5 2]) .leaf) .leaf)) (.seq (.seq (.reg [A 9 2, A 10 0, ⟨11, 2, true⟩, A 12 2, A 13 2, A 14 0, A 15 20]) (.cond (.seq (.reg [A 4 2, A 5 2]) .leaf) .leaf)) (.seq (.reg [A 16 2, A 17 2, A 18 10, A 4 2, A 5 2]) .leaf))))
 (Eq.mpr (by kernel_rfl) h)

end Go.Proofs.YtefkpimcffofaaaGreat
