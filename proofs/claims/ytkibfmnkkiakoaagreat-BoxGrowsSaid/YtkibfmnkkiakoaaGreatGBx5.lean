/- Part of the proof; it has the parts GBx5. -/
import Derived.Test.YtkibfmnkkiakoaaGreatFLen
set_option maxRecDepth 100000
set_option maxHeartbeats 4000000
namespace Go.Proofs.YtkibfmnkkiakoaaGreat
open Go Go.Vc Go.Proofs
open Go.IntKind (i8 i16 i32 i64 u8 u16 u32 u64)

theorem bound_abs_vc (p0 : BdV) (V : View) (R : Value → View → Prop) 
 (h :
 CallV Tryz.prog 185 #[p0.val] V fun v V1 => ∃ r1 : Int, v = .int .i64 r1 ∧
 ((decide ((r1 : Int) < 0)) = true →
 CallV Tryz.prog 147 #[p0.val] V1 fun v V2 => ∃ r2 : BdV, v = r2.val ∧
 R (r2.val) V2) ∧
 ((decide ((r1 : Int) < 0)) = false →
 R (p0.val) V1)) :
 CallV Tryz.prog 213 #[p0.val] V R :=
 calls_of_vc (Shp := Shp) hmixed Tryz.func213 (c := Tryz.f213.body.getD .skip) (args := [p0.val]) (by kernel_rfl)
 (.seq (.reg [A 1 3, A 2 3]) (.seq (.seq (.reg [A 1 4, A 4 10, A 5 0]) (.cond (.seq (.reg [A 1 4, A 7 10, A 2 6]) .leaf) .leaf)) (.seq (.reg [A 1 4, A 2 6]) .leaf)))
 (Eq.mpr (by kernel_rfl) h)

theorem box_whole_vc (p0 : Int) (V : View) (R : Value → View → Prop) 
 (h :
 CallV Tryz.prog 169 #[.int .i64 p0] V fun v V1 => ∃ r1 : NumV, v = r1.val ∧
 R ((BdV.mk 0 r1).val) V1) :
 CallV Tryz.prog 214 #[.int .i64 p0] V R :=
 calls_of_vc (Shp := Shp) hmixed Tryz.func214 (c := Tryz.f214.body.getD .skip) (args := [.int .i64 p0]) (by kernel_rfl)
 (.seq (.reg [A 2 3]) (.seq (.reg [A 3 2, A 4 10, A 5 0, A 2 6]) .leaf))
 (Eq.mpr (by kernel_rfl) h)

theorem set_size_vc (p0 : SetV) (V : View) (R : Value → View → Prop) 
 (h :
 CallV Tryz.prog 213 #[p0.lo.val] V fun v V1 => ∃ r1 : BdV, v = r1.val ∧
 CallV Tryz.prog 213 #[p0.hi.val] V1 fun v V2 => ∃ r2 : BdV, v = r2.val ∧
 CallV Tryz.prog 154 #[p0.val] V2 fun v V3 => ∃ r3 : Bool, v = .bool r3 ∧
 (r3 = true →
 CallV Tryz.prog 214 #[.int .i64 0] V3 fun v V4 => ∃ r4 : BdV, v = r4.val ∧
 ∀ (b1 : Nat) (V5 : View), View.le V4 V5 → View.Fin V5 → V5 b1 = some #[.int .i64 r1.inf, .bool r1.x.re.neg, r1.x.re.mag.v, .bool r1.x.im.neg, r1.x.im.mag.v, r1.x.under.v, .int .i64 r2.inf, .bool r2.x.re.neg, r2.x.re.mag.v, .bool r2.x.im.neg, r2.x.im.mag.v, r2.x.under.v] →
 CallV Tryz.prog 111 #[(Sl.mk (some (Addr.mk b1 0 none)) 2 2).v] V5 fun v V6 => ∃ r5 : BdV, v = r5.val ∧
 R ((SetV.mk r4 r5).val) V6) ∧
 (r3 = false →
 ∀ (b2 : Nat) (V7 : View), View.le V3 V7 → View.Fin V7 → V7 b2 = some #[.int .i64 r1.inf, .bool r1.x.re.neg, r1.x.re.mag.v, .bool r1.x.im.neg, r1.x.im.mag.v, r1.x.under.v, .int .i64 r2.inf, .bool r2.x.re.neg, r2.x.re.mag.v, .bool r2.x.im.neg, r2.x.im.mag.v, r2.x.under.v] →
 CallV Tryz.prog 110 #[(Sl.mk (some (Addr.mk b2 0 none)) 2 2).v] V7 fun v V8 => ∃ r6 : BdV, v = r6.val ∧
 ∀ (b3 : Nat) (V9 : View), View.le V8 V9 → View.Fin V9 → V9 b3 = some #[.int .i64 r1.inf, .bool r1.x.re.neg, r1.x.re.mag.v, .bool r1.x.im.neg, r1.x.im.mag.v, r1.x.under.v, .int .i64 r2.inf, .bool r2.x.re.neg, r2.x.re.mag.v, .bool r2.x.im.neg, r2.x.im.mag.v, r2.x.under.v] →
 CallV Tryz.prog 111 #[(Sl.mk (some (Addr.mk b3 0 none)) 2 2).v] V9 fun v V10 => ∃ r7 : BdV, v = r7.val ∧
 R ((SetV.mk r6 r7).val) V10)) :
 CallV Tryz.prog 145 #[p0.val] V R :=
 calls_of_vc (Shp := Shp) hmixed Tryz.func145 (c := Tryz.f145.body.getD .skip) (args := [p0.val]) (by kernel_rfl)
 (.seq (.reg [A 1 3, A 2 3]) (.seq (.draw [(0, A 5 7), (1, A 1 4), (3, A 8 7), (4, A 1 4), (6, A 3 3), (7, A 4 3), (2, A 7 10), (5, A 10 10), (8, A 3 6), (9, A 4 6)] [0, 1, 3, 0, 8, 31, 0, 0, 255, 511]) (.seq (.seq (.reg [A 1 4, A 12 10]) (.cond (.seq (.draw [(1, A 3 4), (2, A 4 4), (0, A 13 10), (3, A 16 11), (4, A 17 10), (5, A 18 0), (6, A 2 6)] [0, 0, 0, 6, 15, 31, 63]) .leaf) .leaf)) (.seq (.draw [(0, A 3 4), (1, A 4 4), (4, A 3 4), (5, A 4 4), (2, A 21 11), (3, A 22 10), (6, A 25 11), (7, A 26 10), (8, A 27 0), (9, A 2 6)] [0, 0, 3, 7, 0, 0, 48, 127, 255, 511]) .leaf))))
 (Eq.mpr (by kernel_rfl) h)

theorem set_square_vc (p0 : SetV) (V : View) (R : Value → View → Prop) 
 (h :
 CallV Tryz.prog 145 #[p0.val] V fun v V1 => ∃ r1 : SetV, v = r1.val ∧
 CallV Tryz.prog 202 #[r1.lo.val, r1.lo.val] V1 fun v V2 => ∃ r2 : BdV, v = r2.val ∧
 CallV Tryz.prog 202 #[r1.hi.val, r1.hi.val] V2 fun v V3 => ∃ r3 : BdV, v = r3.val ∧
 R ((SetV.mk r2 r3).val) V3) :
 CallV Tryz.prog 124 #[p0.val] V R :=
 calls_of_vc (Shp := Shp) hmixed Tryz.func124 (c := Tryz.f124.body.getD .skip) (args := [p0.val]) (by kernel_rfl)
 (.seq (.reg [A 1 3, A 2 3]) (.seq (.reg [A 1 4, A 5 10, A 3 3, A 3 6]) (.seq (.draw [(0, A 6 7), (1, A 3 4), (2, A 8 7), (3, A 3 4), (5, A 11 7), (6, A 3 4), (7, A 13 7), (8, A 3 4), (4, A 10 10), (9, A 15 10), (10, A 16 0), (11, A 2 6)] [0, 1, 0, 4, 15, 0, 32, 0, 128, 511, 1023, 2047]) .leaf)))
 (Eq.mpr (by kernel_rfl) h)

theorem Box_Div_vc (p0 : BoxV) (p1 : BoxV) (V : View) (R : Value → View → Prop) 
 (h :
 CallV Tryz.prog 26 #[p1.val] V fun v V1 => ∃ (r1 : BoxV) (r2 : Int), v = .tuple #[r1.val, .int .i64 r2] ∧
 (((r2 : Int) != 0) = true →
 R (.tuple #[(BoxV.mk (SpV.mk 0 0) (SpV.mk 0 0)).val, .int .i64 r2]) V1) ∧
 (((r2 : Int) != 0) = false →
 CallV Tryz.prog 41 #[p0.val, r1.val] V1 fun v V2 => ∃ r3 : BoxV, v = r3.val ∧
 R (.tuple #[r3.val, .int .i64 0]) V2)) :
 CallV Tryz.prog 28 #[p0.val, p1.val] V R :=
 calls_of_vc (Shp := Shp) hmixed Tryz.func28 (c := Tryz.f28.body.getD .skip) (args := [p0.val, p1.val]) (by kernel_rfl)
 (.seq (.reg [A 2 3, A 3 3, A 4 3, A 5 2]) (.seq (.reg [A 3 4, A 10 10, A 8 2, A 11 0, A 12 0, A 6 3, A 6 6, A 7 2]) (.seq (.seq (.reg [A 13 2, A 14 0]) (.cond (.seq (.reg [A 15 0, A 16 2, A 4 6, A 5 2]) .leaf) .leaf)) (.seq (.reg [A 2 4, A 6 4, A 19 10, A 4 6, A 5 2]) .leaf))))
 (Eq.mpr (by kernel_rfl) h)

theorem Box_Norm_vc (p0 : BoxV) (V : View) (R : Value → View → Prop) 
 (h :
 CallV Tryz.prog 99 #[p0.re.val] V fun v V1 => ∃ r1 : SetV, v = r1.val ∧
 CallV Tryz.prog 124 #[r1.val] V1 fun v V2 => ∃ r2 : SetV, v = r2.val ∧
 CallV Tryz.prog 99 #[p0.im.val] V2 fun v V3 => ∃ r3 : SetV, v = r3.val ∧
 CallV Tryz.prog 124 #[r3.val] V3 fun v V4 => ∃ r4 : SetV, v = r4.val ∧
 CallV Tryz.prog 121 #[r2.val, r4.val] V4 fun v V5 => ∃ r5 : SetV, v = r5.val ∧
 CallV Tryz.prog 101 #[r5.val] V5 fun v V6 => ∃ r6 : SpV, v = r6.val ∧
 R (r6.val) V6) :
 CallV Tryz.prog 43 #[p0.val] V R :=
 calls_of_vc (Shp := Shp) hmixed Tryz.func43 (c := Tryz.f43.body.getD .skip) (args := [p0.val]) (by kernel_rfl)
 (.seq (.reg [A 1 3, A 2 3]) (.seq (.draw [(0, A 3 7), (1, A 1 4), (4, A 7 7), (5, A 1 4), (2, A 5 10), (3, A 6 10), (6, A 9 10), (7, A 10 10), (8, A 11 10), (9, A 12 10), (10, A 2 6)] [0, 1, 3, 7, 0, 16, 63, 127, 255, 511, 1023]) .leaf))
 (Eq.mpr (by kernel_rfl) h)

end Go.Proofs.YtkibfmnkkiakoaaGreat
