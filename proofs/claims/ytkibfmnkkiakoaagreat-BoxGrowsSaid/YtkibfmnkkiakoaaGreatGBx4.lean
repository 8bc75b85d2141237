/- Part of the proof; it has the parts GBx4. -/
import Derived.Test.YtkibfmnkkiakoaaGreatGBla
set_option maxRecDepth 100000
set_option maxHeartbeats 4000000
namespace Go.Proofs.YtkibfmnkkiakoaaGreat
open Go Go.Vc Go.Proofs
open Go.IntKind (i8 i16 i32 i64 u8 u16 u32 u64)

theorem Span_Add_vc (p0 : SpV) (p1 : SpV) (V : View) (R : Value → View → Prop) 
 (h :
 CallV Tryz.prog 99 #[p0.val] V fun v V1 => ∃ r1 : SetV, v = r1.val ∧
 CallV Tryz.prog 99 #[p1.val] V1 fun v V2 => ∃ r2 : SetV, v = r2.val ∧
 CallV Tryz.prog 121 #[r1.val, r2.val] V2 fun v V3 => ∃ r3 : SetV, v = r3.val ∧
 CallV Tryz.prog 101 #[r3.val] V3 fun v V4 => ∃ r4 : SpV, v = r4.val ∧
 R (r4.val) V4) :
 CallV Tryz.prog 69 #[p0.val, p1.val] V R :=
 calls_of_vc (Shp := Shp) hmixed Tryz.func69 (c := Tryz.f69.body.getD .skip) (args := [p0.val, p1.val]) (by kernel_rfl)
 (.seq (.reg [A 2 3, A 3 3, A 4 3]) (.seq (.draw [(0, A 2 4), (2, A 3 4), (1, A 6 10), (3, A 8 10), (4, A 9 10), (5, A 10 10), (6, A 4 6)] [0, 1, 0, 7, 15, 31, 63]) .leaf))
 (Eq.mpr (by kernel_rfl) h)

theorem Span_Sub_vc (p0 : SpV) (p1 : SpV) (V : View) (R : Value → View → Prop) 
 (h :
 CallV Tryz.prog 99 #[p0.val] V fun v V1 => ∃ r1 : SetV, v = r1.val ∧
 CallV Tryz.prog 99 #[p1.val] V1 fun v V2 => ∃ r2 : SetV, v = r2.val ∧
 CallV Tryz.prog 102 #[r2.val] V2 fun v V3 => ∃ r3 : SetV, v = r3.val ∧
 CallV Tryz.prog 121 #[r1.val, r3.val] V3 fun v V4 => ∃ r4 : SetV, v = r4.val ∧
 CallV Tryz.prog 101 #[r4.val] V4 fun v V5 => ∃ r5 : SpV, v = r5.val ∧
 R (r5.val) V5) :
 CallV Tryz.prog 71 #[p0.val, p1.val] V R :=
 calls_of_vc (Shp := Shp) hmixed Tryz.func71 (c := Tryz.f71.body.getD .skip) (args := [p0.val, p1.val]) (by kernel_rfl)
 (.seq (.reg [A 2 3, A 3 3, A 4 3]) (.seq (.draw [(0, A 2 4), (2, A 3 4), (1, A 6 10), (3, A 8 10), (4, A 9 10), (5, A 10 10), (6, A 11 10), (7, A 4 6)] [0, 1, 0, 7, 15, 31, 63, 127]) .leaf))
 (Eq.mpr (by kernel_rfl) h)

theorem Box_Add_vc (p0 : BoxV) (p1 : BoxV) (V : View) (R : Value → View → Prop) 
 (h :
 CallV Tryz.prog 69 #[p0.re.val, p1.re.val] V fun v V1 => ∃ r1 : SpV, v = r1.val ∧
 CallV Tryz.prog 69 #[p0.im.val, p1.im.val] V1 fun v V2 => ∃ r2 : SpV, v = r2.val ∧
 R ((BoxV.mk r1 r2).val) V2) :
 CallV Tryz.prog 18 #[p0.val, p1.val] V R :=
 calls_of_vc (Shp := Shp) hmixed Tryz.func18 (c := Tryz.f18.body.getD .skip) (args := [p0.val, p1.val]) (by kernel_rfl)
 (.seq (.reg [A 2 3, A 3 3, A 4 3]) (.seq (.draw [(0, A 5 7), (1, A 2 4), (2, A 7 7), (3, A 3 4), (5, A 10 7), (6, A 2 4), (7, A 12 7), (8, A 3 4), (4, A 9 10), (9, A 14 10), (10, A 15 0), (11, A 4 6)] [0, 1, 0, 4, 15, 0, 32, 0, 128, 511, 1023, 2047]) .leaf))
 (Eq.mpr (by kernel_rfl) h)

theorem Box_Sub_vc (p0 : BoxV) (p1 : BoxV) (V : View) (R : Value → View → Prop) 
 (h :
 CallV Tryz.prog 71 #[p0.re.val, p1.re.val] V fun v V1 => ∃ r1 : SpV, v = r1.val ∧
 CallV Tryz.prog 71 #[p0.im.val, p1.im.val] V1 fun v V2 => ∃ r2 : SpV, v = r2.val ∧
 R ((BoxV.mk r1 r2).val) V2) :
 CallV Tryz.prog 20 #[p0.val, p1.val] V R :=
 calls_of_vc (Shp := Shp) hmixed Tryz.func20 (c := Tryz.f20.body.getD .skip) (args := [p0.val, p1.val]) (by kernel_rfl)
 (.seq (.reg [A 2 3, A 3 3, A 4 3]) (.seq (.draw [(0, A 5 7), (1, A 2 4), (2, A 7 7), (3, A 3 4), (5, A 10 7), (6, A 2 4), (7, A 12 7), (8, A 3 4), (4, A 9 10), (9, A 14 10), (10, A 15 0), (11, A 4 6)] [0, 1, 0, 4, 15, 0, 32, 0, 128, 511, 1023, 2047]) .leaf))
 (Eq.mpr (by kernel_rfl) h)

theorem box_Around_vc (p0 : NumV) (p1 : NumV) (V : View) (R : Value → View → Prop) 
 (h :
 CallV Tryz.prog 109 #[p0.val] V fun v V1 => ∃ r1 : Bool, v = .bool r1 ∧
 ((!r1) = true →
 R (.tuple #[(SpV.mk 0 0).val, .int .i64 1]) V1) ∧
 ((!r1) = false →
 CallV Tryz.prog 109 #[p1.val] V1 fun v V2 => ∃ r2 : Bool, v = .bool r2 ∧
 ((!r2) = true →
 R (.tuple #[(SpV.mk 0 0).val, .int .i64 1]) V2) ∧
 ((!r2) = false →
 ∀ (b1 : Nat) (V3 : View), View.le V2 V3 → View.Fin V3 → V3 b1 = some #[.int .i64 0, .bool p0.re.neg, p0.re.mag.v, .bool p0.im.neg, p0.im.mag.v, p0.under.v, .int .i64 0, .bool p1.re.neg, p1.re.mag.v, .bool p1.im.neg, p1.im.mag.v, p1.under.v] →
 CallV Tryz.prog 110 #[(Sl.mk (some (Addr.mk b1 0 none)) 2 2).v] V3 fun v V4 => ∃ r3 : BdV, v = r3.val ∧
 ∀ (b2 : Nat) (V5 : View), View.le V4 V5 → View.Fin V5 → V5 b2 = some #[.int .i64 0, .bool p0.re.neg, p0.re.mag.v, .bool p0.im.neg, p0.im.mag.v, p0.under.v, .int .i64 0, .bool p1.re.neg, p1.re.mag.v, .bool p1.im.neg, p1.im.mag.v, p1.under.v] →
 CallV Tryz.prog 111 #[(Sl.mk (some (Addr.mk b2 0 none)) 2 2).v] V5 fun v V6 => ∃ r4 : BdV, v = r4.val ∧
 CallV Tryz.prog 101 #[(SetV.mk r3 r4).val] V6 fun v V7 => ∃ r5 : SpV, v = r5.val ∧
 R (.tuple #[r5.val, .int .i64 0]) V7))) :
 CallV Tryz.prog 34 #[p0.val, p1.val] V R :=
 calls_of_vc (Shp := Shp) hmixed Tryz.func34 (c := Tryz.f34.body.getD .skip) (args := [p0.val, p1.val]) (by kernel_rfl)
 (.seq (.reg [A 2 3, A 3 3, A 4 3, A 5 2]) (.seq (.seq (.reg [A 2 4, A 9 10, A 10 20, ⟨11, 2, true⟩, A 3 4, A 13 10, A 14 20, A 15 20]) (.cond (.seq (.reg [A 16 0, A 4 6, A 5 2]) .leaf) .leaf)) (.seq (.draw [(0, A 2 4), (1, A 18 0), (2, A 3 4), (3, A 20 0), (4, A 6 3), (5, A 7 3), (6, A 6 6), (7, A 7 6)] [0, 1, 0, 4, 0, 0, 51, 127]) (.seq (.draw [(0, A 6 4), (1, A 7 4), (4, A 6 4), (5, A 7 4), (2, A 23 11), (3, A 24 10), (6, A 27 11), (7, A 28 10), (8, A 29 0), (9, A 30 10), (10, A 4 6), (11, A 5 2)] [0, 0, 3, 7, 0, 0, 48, 127, 255, 511, 1023, 2047]) .leaf))))
 (Eq.mpr (by kernel_rfl) h)

theorem Box_Of_vc (p0 : BoxV) (p1 : NumV) (V : View) (R : Value → View → Prop) 
 (h :
 CallV Tryz.prog 128 #[p1.val] V fun v V1 => ∃ r1 : NumV, v = r1.val ∧
 CallV Tryz.prog 128 #[p1.val] V1 fun v V2 => ∃ r2 : NumV, v = r2.val ∧
 CallV Tryz.prog 34 #[r1.val, r2.val] V2 fun v V3 => ∃ (r3 : SpV) (r4 : Int), v = .tuple #[r3.val, .int .i64 r4] ∧
 CallV Tryz.prog 129 #[p1.val] V3 fun v V4 => ∃ r5 : NumV, v = r5.val ∧
 CallV Tryz.prog 129 #[p1.val] V4 fun v V5 => ∃ r6 : NumV, v = r6.val ∧
 CallV Tryz.prog 34 #[r5.val, r6.val] V5 fun v V6 => ∃ (r7 : SpV) (r8 : Int), v = .tuple #[r7.val, .int .i64 r8] ∧
 R ((BoxV.mk r3 r7).val) V6) :
 CallV Tryz.prog 47 #[p0.val, p1.val] V R :=
 calls_of_vc (Shp := Shp) hmixed Tryz.func47 (c := Tryz.f47.body.getD .skip) (args := [p0.val, p1.val]) (by kernel_rfl)
 (.seq (.reg [A 2 3, A 3 3, A 4 3]) (.seq (.draw [(0, A 3 4), (2, A 3 4), (8, A 5 3), (1, A 11 10), (3, A 13 10), (4, A 14 10), (5, A 9 2), (6, A 15 0), (7, A 16 0), (9, A 5 6), (10, A 6 2)] [0, 1, 0, 7, 15, 31, 63, 63, 0, 383, 1023]) (.seq (.draw [(0, A 3 4), (2, A 3 4), (8, A 7 3), (1, A 19 10), (3, A 21 10), (4, A 22 10), (5, A 17 2), (6, A 23 0), (7, A 24 0), (9, A 7 6), (10, A 8 2)] [0, 1, 0, 7, 15, 31, 63, 63, 0, 383, 1023]) (.seq (.reg [A 5 4, A 7 4, A 27 0, A 4 6]) .leaf))))
 (Eq.mpr (by kernel_rfl) h)

end Go.Proofs.YtkibfmnkkiakoaaGreat
