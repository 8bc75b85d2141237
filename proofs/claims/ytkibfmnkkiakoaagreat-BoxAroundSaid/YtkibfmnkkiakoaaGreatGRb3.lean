/- Part of the proof; it has the parts GRb3. -/
import Derived.Test.YtkibfmnkkiakoaaGreatFLen
set_option maxRecDepth 100000
set_option maxHeartbeats 4000000
namespace Go.Proofs.YtkibfmnkkiakoaaGreat
open Go Go.Vc Go.Proofs
open Go.IntKind (i8 i16 i32 i64 u8 u16 u32 u64)

theorem ref1_Side_vc (p0 : NumV) (V : View) (R : Value → View → Prop) 
 (h :
 CallV Tryz.prog 131 #[p0.val] V fun v V1 => ∃ r1 : NumV, v = r1.val ∧
 CallV Tryz.prog 240 #[r1.val] V1 fun v V2 => ∃ r2 : Int, v = .int .i64 r2 ∧
 R (.int .i64 r2) V2) :
 CallV Tryz.prog 194 #[p0.val] V R :=
 calls_of_vc (Shp := Shp) hmixed Tryz.func194 (c := Tryz.f194.body.getD .skip) (args := [p0.val]) (by kernel_rfl)
 (.seq (.reg [A 1 3, A 2 2]) (.seq (.reg [A 1 4, A 4 10, A 5 10, A 2 2]) .leaf))
 (Eq.mpr (by kernel_rfl) h)

theorem ref2_isReal_vc (p0 : NumV) (V : View) (R : Value → View → Prop) 
 (h :
 CallV Tryz.prog 194 #[p0.val] V fun v V1 => ∃ r1 : Int, v = .int .i64 r1 ∧
 R (.bool ((r1 : Int) == 0)) V1) :
 CallV Tryz.prog 113 #[p0.val] V R :=
 calls_of_vc (Shp := Shp) hmixed Tryz.func113 (c := Tryz.f113.body.getD .skip) (args := [p0.val]) (by kernel_rfl)
 (.seq (.reg [A 1 3, A 2 9]) (.seq (.reg [A 1 4, A 4 10, A 5 0, A 2 2]) .leaf))
 (Eq.mpr (by kernel_rfl) h)

theorem ref2_Around_vc (p0 : NumV) (p1 : NumV) (V : View) (R : Value → View → Prop) 
 (h :
 CallV Tryz.prog 113 #[p0.val] V fun v V1 => ∃ r1 : Bool, v = .bool r1 ∧
 ((!r1) = true →
 R (.tuple #[(SpV.mk 0 0).val, .int .i64 1]) V1) ∧
 ((!r1) = false →
 CallV Tryz.prog 113 #[p1.val] V1 fun v V2 => ∃ r2 : Bool, v = .bool r2 ∧
 ((!r2) = true →
 R (.tuple #[(SpV.mk 0 0).val, .int .i64 1]) V2) ∧
 ((!r2) = false →
 CallV Tryz.prog 114 #[p0.val] V2 fun v V3 => ∃ r3 : BdV, v = r3.val ∧
 CallV Tryz.prog 114 #[p1.val] V3 fun v V4 => ∃ r4 : BdV, v = r4.val ∧
 ∀ (b1 : Nat) (V5 : View), View.le V4 V5 → View.Fin V5 → V5 b1 = some #[.int .i64 r3.inf, .bool r3.x.re.neg, r3.x.re.mag.v, .bool r3.x.im.neg, r3.x.im.mag.v, r3.x.under.v, .int .i64 r4.inf, .bool r4.x.re.neg, r4.x.re.mag.v, .bool r4.x.im.neg, r4.x.im.mag.v, r4.x.under.v] →
 CallV Tryz.prog 105 #[(Sl.mk (some (Addr.mk b1 0 none)) 2 2).v] V5 fun v V6 => ∃ r5 : BdV, v = r5.val ∧
 CallV Tryz.prog 106 #[(Sl.mk (some (Addr.mk b1 0 none)) 2 2).v] V6 fun v V7 => ∃ r6 : BdV, v = r6.val ∧
 CallV Tryz.prog 104 #[r5.val, r6.val] V7 fun v V8 => ∃ r7 : SpV, v = r7.val ∧
 R (.tuple #[r7.val, .int .i64 0]) V8))) :
 CallV Tryz.prog 36 #[p0.val, p1.val] V R :=
 calls_of_vc (Shp := Shp) hmixed Tryz.func36 (c := Tryz.f36.body.getD .skip) (args := [p0.val, p1.val]) (by kernel_rfl)
 (.seq (.reg [A 2 3, A 3 3, A 4 3, A 5 2]) (.seq (.seq (.reg [A 2 4, A 8 10, A 9 20, ⟨10, 2, true⟩, A 3 4, A 12 10, A 13 20, A 14 20]) (.cond (.seq (.reg [A 15 0, A 4 6, A 5 2]) .leaf) .leaf)) (.seq (.draw [(0, A 2 4), (2, A 3 4), (1, A 17 10), (3, A 19 10), (4, A 20 11), (5, A 6 2)] [0, 1, 0, 7, 15, 31]) (.seq (.reg [A 21 2, A 22 10, A 23 2, A 24 10, A 25 10, A 4 6, A 5 2]) .leaf))))
 (Eq.mpr (by kernel_rfl) h)

theorem ref2_Span_Has_vc (p0 : SpV) (p1 : NumV) (V : View) (R : Value → View → Prop) 
 (h :
 CallV Tryz.prog 113 #[p1.val] V fun v V1 => ∃ r1 : Bool, v = .bool r1 ∧
 (r1 = true →
 CallV Tryz.prog 119 #[.float .f64 p0.lo] V1 fun v V2 => ∃ r2 : BdV, v = r2.val ∧
 CallV Tryz.prog 114 #[p1.val] V2 fun v V3 => ∃ r3 : BdV, v = r3.val ∧
 CallV Tryz.prog 118 #[r2.val, r3.val] V3 fun v V4 => ∃ r4 : Int, v = .int .i64 r4 ∧
 ((decide ((r4 : Int) ≤ 0)) = true →
 CallV Tryz.prog 114 #[p1.val] V4 fun v V5 => ∃ r5 : BdV, v = r5.val ∧
 CallV Tryz.prog 119 #[.float .f64 p0.hi] V5 fun v V6 => ∃ r6 : BdV, v = r6.val ∧
 CallV Tryz.prog 118 #[r5.val, r6.val] V6 fun v V7 => ∃ r7 : Int, v = .int .i64 r7 ∧
 R (.bool (decide ((r7 : Int) ≤ 0))) V7) ∧
 ((decide ((r4 : Int) ≤ 0)) = false →
 R (.bool false) V4)) ∧
 (r1 = false →
 R (.bool false) V1)) :
 CallV Tryz.prog 40 #[p0.val, p1.val] V R :=
 calls_of_vc (Shp := Shp) hmixed Tryz.func40 (c := Tryz.f40.body.getD .skip) (args := [p0.val, p1.val]) (by kernel_rfl)
 (.seq (.reg [A 2 3, A 3 3, A 4 9]) (.seq (.draw [(0, A 3 4), (1, A 6 10), (2, ⟨7, 2, true⟩), (3, A 8 7), (4, A 2 4), (6, A 3 4), (5, A 10 10), (7, A 12 10), (8, A 13 10), (9, A 14 0), (10, A 15 20), (11, ⟨16, 2, true⟩), (12, A 3 4), (14, A 19 7), (15, A 2 4), (13, A 18 10), (16, A 21 10), (17, A 22 10), (18, A 23 0), (19, A 24 20), (20, A 4 2)] [0, 1, 3, 7, 15, 31, 7, 127, 255, 511, 1023, 2047, 4095, 8191, 4095, 20479, 65535, 131071, 262143, 524287, 1048575]) .leaf))
 (Eq.mpr (by kernel_rfl) h)

end Go.Proofs.YtkibfmnkkiakoaaGreat
