/- Part of the proof; it has the parts GBx1. -/
import Derived.Test.YtkibfmnkkiakoaaGreatGBx2
set_option maxRecDepth 100000
set_option maxHeartbeats 4000000
namespace Go.Proofs.YtkibfmnkkiakoaaGreat
open Go Go.Vc Go.Proofs
open Go.IntKind (i8 i16 i32 i64 u8 u16 u32 u64)

theorem cmp_isNaN_int__vc (p0 : Int) (V : View) (R : Value → View → Prop) 
 (h :
 R (.bool ((p0 : Int) != p0)) V) :
 CallV Tryz.prog 244 #[.int .i64 p0] V R :=
 calls_of_vc (Shp := Shp) hmixed Tryz.func244 (c := Tryz.f244.body.getD .skip) (args := [.int .i64 p0]) (by kernel_rfl)
 (.seq (.reg [A 2 9]) (.seq (.reg [A 3 2, A 4 2, A 5 0, A 2 2]) .leaf))
 (Eq.mpr (by kernel_rfl) h)

theorem cmp_Compare_int__vc (p0 : Int) (p1 : Int) (V : View) (R : Value → View → Prop) 
 (h :
 CallV Tryz.prog 244 #[.int .i64 p0] V fun v V1 => ∃ r1 : Bool, v = .bool r1 ∧
 CallV Tryz.prog 244 #[.int .i64 p1] V1 fun v V2 => ∃ r2 : Bool, v = .bool r2 ∧
 (r1 = true →
 (r2 = true →
 R (.int .i64 0) V2) ∧
 (r2 = false →
 R (.int .i64 (-1)) V2)) ∧
 (r1 = false →
 (r2 = true →
 R (.int .i64 1) V2) ∧
 (r2 = false →
 ((decide ((p0 : Int) < p1)) = true →
 R (.int .i64 (-1)) V2) ∧
 ((decide ((p0 : Int) < p1)) = false →
 ((decide ((p0 : Int) > p1)) = true →
 R (.int .i64 1) V2) ∧
 ((decide ((p0 : Int) > p1)) = false →
 R (.int .i64 0) V2))))) :
 CallV Tryz.prog 197 #[.int .i64 p0, .int .i64 p1] V R :=
 calls_of_vc (Shp := Shp) hmixed Tryz.func197 (c := Tryz.f197.body.getD .skip) (args := [.int .i64 p0, .int .i64 p1]) (by kernel_rfl)
 (.seq (.reg [A 4 2]) (.seq (.reg [A 7 2, A 8 10, A 5 2]) (.seq (.reg [A 9 2, A 10 10, A 6 2]) (.seq (.seq (.reg [A 11 2]) (.cond (.seq (.seq (.reg [A 12 2]) (.cond (.seq (.reg [A 4 2]) .leaf) .leaf)) (.seq (.reg [A 4 2]) .leaf)) .leaf)) (.seq (.seq (.reg [A 13 2]) (.cond (.seq (.reg [A 4 2]) .leaf) .leaf)) (.seq (.seq (.reg [A 14 2, A 15 2, A 16 0]) (.cond (.seq (.reg [A 4 2]) .leaf) .leaf)) (.seq (.seq (.reg [A 17 2, A 18 2, A 19 0]) (.cond (.seq (.reg [A 4 2]) .leaf) .leaf)) (.seq (.reg [A 4 2]) .leaf))))))))
 (Eq.mpr (by kernel_rfl) h)

theorem box_exact_vc (p0 : Nat) (V : View) (R : Value → View → Prop) 
 (h :
 CallV Tryz.prog 56 #[.complex .f64 (CxV.mk p0 0).re (CxV.mk p0 0).im] V fun v V1 => ∃ (r1 : NumV) (r2 : Int), v = .tuple #[r1.val, .int .i64 r2] ∧
 R (r1.val) V1) :
 CallV Tryz.prog 216 #[.float .f64 p0] V R :=
 calls_of_vc (Shp := Shp) hmixed Tryz.func216 (c := Tryz.f216.body.getD .skip) (args := [.float .f64 p0]) (by kernel_rfl)
 (.seq (.reg [A 2 3]) (.seq (.reg [A 6 2, A 7 0, A 8 10, A 5 2, A 9 0, A 10 0, A 3 3, A 3 6, A 4 2]) (.seq (.reg [A 3 4, A 2 6]) .leaf)))
 (Eq.mpr (by kernel_rfl) h)

theorem box_end_vc (p0 : Nat) (V : View) (R : Value → View → Prop) 
 (h :
 CallV Tryz.prog 200 #[.float .f64 p0, .int .i64 1] V fun v V1 => ∃ r1 : Bool, v = .bool r1 ∧
 (r1 = true →
 R ((BdV.mk 1 (NumV.mk (WhV.mk false (Sl.mk none 0 0)) (WhV.mk false (Sl.mk none 0 0)) (Sl.mk none 0 0))).val) V1) ∧
 (r1 = false →
 CallV Tryz.prog 200 #[.float .f64 p0, .int .i64 (-1)] V1 fun v V2 => ∃ r2 : Bool, v = .bool r2 ∧
 (r2 = true →
 R ((BdV.mk (-1) (NumV.mk (WhV.mk false (Sl.mk none 0 0)) (WhV.mk false (Sl.mk none 0 0)) (Sl.mk none 0 0))).val) V2) ∧
 (r2 = false →
 CallV Tryz.prog 216 #[.float .f64 p0] V2 fun v V3 => ∃ r3 : NumV, v = r3.val ∧
 R ((BdV.mk 0 r3).val) V3))) :
 CallV Tryz.prog 183 #[.float .f64 p0] V R :=
 calls_of_vc (Shp := Shp) hmixed Tryz.func183 (c := Tryz.f183.body.getD .skip) (args := [.float .f64 p0]) (by kernel_rfl)
 (.seq (.reg [A 2 3]) (.seq (.seq (.reg [A 3 2, A 4 10]) (.cond (.seq (.reg [A 5 0, A 2 6]) .leaf) .leaf)) (.seq (.seq (.reg [A 6 2, A 7 10]) (.cond (.seq (.reg [A 8 0, A 2 6]) .leaf) .leaf)) (.seq (.reg [A 9 2, A 10 10, A 11 0, A 2 6]) .leaf))))
 (Eq.mpr (by kernel_rfl) h)

theorem bound_cmp_vc (p0 : BdV) (p1 : BdV) (V : View) (R : Value → View → Prop) 
 (h :
 (((p0.inf : Int) != 0) = true →
 CallV Tryz.prog 197 #[.int .i64 p0.inf, .int .i64 p1.inf] V fun v V1 => ∃ r1 : Int, v = .int .i64 r1 ∧
 R (.int .i64 r1) V1) ∧
 (((p0.inf : Int) != 0) = false →
 (((p1.inf : Int) != 0) = true →
 CallV Tryz.prog 197 #[.int .i64 p0.inf, .int .i64 p1.inf] V fun v V2 => ∃ r2 : Int, v = .int .i64 r2 ∧
 R (.int .i64 r2) V2) ∧
 (((p1.inf : Int) != 0) = false →
 CallV Tryz.prog 198 #[p0.x.val, p1.x.val] V fun v V3 => ∃ r3 : Int, v = .int .i64 r3 ∧
 R (.int .i64 r3) V3))) :
 CallV Tryz.prog 117 #[p0.val, p1.val] V R :=
 calls_of_vc (Shp := Shp) hmixed Tryz.func117 (c := Tryz.f117.body.getD .skip) (args := [p0.val, p1.val]) (by kernel_rfl)
 (.seq (.reg [A 2 3, A 3 3, A 4 2]) (.seq (.seq (.reg [A 5 7, A 2 4, A 7 0, ⟨8, 2, true⟩, A 9 7, A 3 4, A 11 0, A 12 20]) (.cond (.seq (.reg [A 13 7, A 2 4, A 15 7, A 3 4, A 17 10, A 4 2]) .leaf) .leaf)) (.seq (.reg [A 18 7, A 2 4, A 20 7, A 3 4, A 22 10, A 4 2]) .leaf)))
 (Eq.mpr (by kernel_rfl) h)

theorem bound_sign_vc (p0 : BdV) (V : View) (R : Value → View → Prop) 
 (h :
 CallV Tryz.prog 117 #[p0.val, (BdV.mk 0 (NumV.mk (WhV.mk false (Sl.mk none 0 0)) (WhV.mk false (Sl.mk none 0 0)) (Sl.mk none 0 0))).val] V fun v V1 => ∃ r1 : Int, v = .int .i64 r1 ∧
 R (.int .i64 r1) V1) :
 CallV Tryz.prog 185 #[p0.val] V R :=
 calls_of_vc (Shp := Shp) hmixed Tryz.func185 (c := Tryz.f185.body.getD .skip) (args := [p0.val]) (by kernel_rfl)
 (.seq (.reg [A 1 3, A 2 2]) (.seq (.reg [A 1 4, A 4 0, A 5 10, A 2 2]) .leaf))
 (Eq.mpr (by kernel_rfl) h)

theorem bound_neg_vc (p0 : BdV) (V : View) (R : Value → View → Prop) 
 (h :
 CallV Tryz.prog 92 #[p0.x.val] V fun v V1 => ∃ r1 : NumV, v = r1.val ∧
 R ((BdV.mk (i64.wrap (0 - p0.inf)) r1).val) V1) :
 CallV Tryz.prog 147 #[p0.val] V R :=
 calls_of_vc (Shp := Shp) hmixed Tryz.func147 (c := Tryz.f147.body.getD .skip) (args := [p0.val]) (by kernel_rfl)
 (.seq (.reg [A 1 3, A 2 3]) (.seq (.draw [(0, A 3 7), (1, A 1 4), (2, A 5 0), (3, A 6 7), (4, A 1 4), (5, A 8 10), (6, A 9 0), (7, A 2 6)] [0, 1, 3, 0, 8, 24, 63, 127]) .leaf))
 (Eq.mpr (by kernel_rfl) h)

theorem bound_add_vc (p0 : BdV) (p1 : BdV) (V : View) (R : Value → View → Prop) 
 (h :
 (((p0.inf : Int) != 0) = true →
 R (p0.val) V) ∧
 (((p0.inf : Int) != 0) = false →
 (((p1.inf : Int) != 0) = true →
 R (p1.val) V) ∧
 (((p1.inf : Int) != 0) = false →
 CallV Tryz.prog 81 #[p0.x.val, p1.x.val] V fun v V1 => ∃ r1 : NumV, v = r1.val ∧
 R ((BdV.mk 0 r1).val) V1))) :
 CallV Tryz.prog 203 #[p0.val, p1.val] V R :=
 calls_of_vc (Shp := Shp) hmixed Tryz.func203 (c := Tryz.f203.body.getD .skip) (args := [p0.val, p1.val]) (by kernel_rfl)
 (.seq (.reg [A 2 3, A 3 3, A 4 3]) (.seq (.seq (.reg [A 5 7, A 2 4, A 7 0]) (.cond (.seq (.reg [A 2 4, A 4 6]) .leaf) .leaf)) (.seq (.seq (.reg [A 9 7, A 3 4, A 11 0]) (.cond (.seq (.reg [A 3 4, A 4 6]) .leaf) .leaf)) (.seq (.reg [A 13 7, A 2 4, A 15 7, A 3 4, A 17 10, A 18 0, A 4 6]) .leaf))))
 (Eq.mpr (by kernel_rfl) h)

theorem bound_mul_vc (p0 : BdV) (p1 : BdV) (V : View) (R : Value → View → Prop) 
 (h :
 (((p0.inf : Int) == 0) = true →
 (((p1.inf : Int) == 0) = true →
 CallV Tryz.prog 91 #[p0.x.val, p1.x.val] V fun v V1 => ∃ r1 : NumV, v = r1.val ∧
 R ((BdV.mk 0 r1).val) V1) ∧
 (((p1.inf : Int) == 0) = false →
 CallV Tryz.prog 185 #[p0.val] V fun v V2 => ∃ r2 : Int, v = .int .i64 r2 ∧
 CallV Tryz.prog 185 #[p1.val] V2 fun v V3 => ∃ r3 : Int, v = .int .i64 r3 ∧
 R ((BdV.mk (i64.wrap (r2 * r3)) (NumV.mk (WhV.mk false (Sl.mk none 0 0)) (WhV.mk false (Sl.mk none 0 0)) (Sl.mk none 0 0))).val) V3)) ∧
 (((p0.inf : Int) == 0) = false →
 CallV Tryz.prog 185 #[p0.val] V fun v V4 => ∃ r4 : Int, v = .int .i64 r4 ∧
 CallV Tryz.prog 185 #[p1.val] V4 fun v V5 => ∃ r5 : Int, v = .int .i64 r5 ∧
 R ((BdV.mk (i64.wrap (r4 * r5)) (NumV.mk (WhV.mk false (Sl.mk none 0 0)) (WhV.mk false (Sl.mk none 0 0)) (Sl.mk none 0 0))).val) V5)) :
 CallV Tryz.prog 202 #[p0.val, p1.val] V R :=
 calls_of_vc (Shp := Shp) hmixed Tryz.func202 (c := Tryz.f202.body.getD .skip) (args := [p0.val, p1.val]) (by kernel_rfl)
 (.seq (.reg [A 2 3, A 3 3, A 4 3]) (.seq (.seq (.reg [A 5 7, A 2 4, A 7 0, ⟨8, 2, true⟩, A 9 7, A 3 4, A 11 0, A 12 20]) (.cond (.seq (.reg [A 13 7, A 2 4, A 15 7, A 3 4, A 17 10, A 18 0, A 4 6]) .leaf) .leaf)) (.seq (.draw [(0, A 2 4), (2, A 3 4), (1, A 20 10), (3, A 22 10), (4, A 23 0), (5, A 24 0), (6, A 4 6)] [0, 1, 0, 7, 15, 31, 63]) .leaf)))
 (Eq.mpr (by kernel_rfl) h)

theorem box_pick_1_vc (p0 : BdV) (p1 : BdV) (p2 : Option Addr) (V : View) (R : Value → View → Prop) 
 (h :
 ∃ x1 : Int, View.load V p2 = some (.int .i64 x1) ∧
 CallV Tryz.prog 117 #[p0.val, p1.val] V fun v V1 => ∃ r1 : Int, v = .int .i64 r1 ∧
 R (.bool ((r1 : Int) == x1)) V1) :
 CallV Tryz.prog 239 #[p0.val, p1.val, .pointer p2] V R :=
 calls_of_vc (Shp := Shp) hmixed Tryz.func239 (c := Tryz.f239.body.getD .skip) (args := [p0.val, p1.val, .pointer p2]) (by kernel_rfl)
 (.seq (.reg [A 3 3, A 4 3, A 5 9]) (.seq (.draw [(0, A 3 4), (1, A 4 4), (3, A 9 5), (2, A 8 10), (4, A 10 0), (5, A 5 2)] [0, 0, 3, 0, 15, 31]) .leaf))
 (Eq.mpr (by kernel_rfl) h)

structure L_box_pick_0 where
 t16 : Int
 o4 : BdV
 o6 : BdV
structure C_box_pick_0 where
 t5 : Value
def box_pick_f0 (p1 : Sl) (c : C_box_pick_0) (w x : L_box_pick_0) : Prop := (Q1 (.own 4 0) ∧ Q1 (.val (c.t5)) ∧ Q1 (.own 6 0) ∧ Q1 (.val (.slice (if p1.cap = Int.toNat 1 then p1.a else Option.map (fun q => Addr.add q (Int.toNat 1 * 6)) p1.a) (Int.toNat ((p1.len : Nat) : Int) - Int.toNat 1) (p1.cap - Int.toNat 1))) ∧ Q1 (.val (.int .i64 ((Int.toNat ((p1.len : Nat) : Int) - Int.toNat 1 : Nat) : Int))) ∧ E2 (.val (.int .i64 w.t16)) (.val (.int .i64 x.t16)) ∧ True) ∧ (O2 ⟨136, .fixed [.val (.int .i64 w.o4.inf), .val (.bool w.o4.x.re.neg), .val (w.o4.x.re.mag.v), .val (.bool w.o4.x.im.neg), .val (w.o4.x.im.mag.v), .val (w.o4.x.under.v)]⟩ ⟨136, .fixed [.val (.int .i64 x.o4.inf), .val (.bool x.o4.x.re.neg), .val (x.o4.x.re.mag.v), .val (.bool x.o4.x.im.neg), .val (x.o4.x.im.mag.v), .val (x.o4.x.under.v)]⟩ ∧ O2 ⟨136, .fixed [.val (.int .i64 w.o6.inf), .val (.bool w.o6.x.re.neg), .val (w.o6.x.re.mag.v), .val (.bool w.o6.x.im.neg), .val (w.o6.x.im.mag.v), .val (w.o6.x.under.v)]⟩ ⟨136, .fixed [.val (.int .i64 x.o6.inf), .val (.bool x.o6.x.re.neg), .val (x.o6.x.re.mag.v), .val (.bool x.o6.x.im.neg), .val (x.o6.x.im.mag.v), .val (x.o6.x.under.v)]⟩ ∧ True)
def box_pick_sk (p0 : Int) (p1 : Sl) (V : View) (R : Value → View → Prop) (I0 : C_box_pick_0 → L_box_pick_0 → View → Prop) (E0 : C_box_pick_0 → L_box_pick_0 → View → Prop) (B0 : C_box_pick_0 → L_box_pick_0 → View → L_box_pick_0 → View → Prop) : Prop :=
 ∀ (b1 : Nat) (V1 : View), View.le V V1 → V1 b1 = some (List.toArray ([.int .i64 p0])) →
 ((0 : Int) ≤ 0 ∧ (0 : Int) < (p1.len : Nat) ∧ Option.isSome p1.a = true) ∧
 ∃ x1 : BdV, View.has V1 (Option.map (fun q => Addr.add q (Int.toNat 0 * 6)) p1.a) (x1.val).cells.toList ∧ Option.isSome (Option.map (fun q => Addr.add q (Int.toNat 0 * 6)) p1.a) = true ∧
 ((0 : Int) ≤ 1 ∧ (1 : Int) ≤ ((p1.len : Nat) : Int) ∧ (((p1.len : Nat) : Int) : Int) ≤ (p1.cap : Nat)) ∧
 E0 (C_box_pick_0.mk (.func (.func 239) #[] #[.pointer (some (Addr.mk b1 0 none))])) (L_box_pick_0.mk 0 (BdV.mk 0 (NumV.mk (WhV.mk false (Sl.mk none 0 0)) (WhV.mk false (Sl.mk none 0 0)) (Sl.mk none 0 0))) x1) V1 ∧
 (∀ (x3 : L_box_pick_0) (V2 : View), View.le V1 V2 → I0 (C_box_pick_0.mk (.func (.func 239) #[] #[.pointer (some (Addr.mk b1 0 none))])) x3 V2 →
 ((decide ((x3.t16 : Int) < ((Int.toNat ((p1.len : Nat) : Int) - Int.toNat 1 : Nat) : Int))) = true →
 ((0 : Int) ≤ x3.t16 ∧ (x3.t16 : Int) < ((Int.toNat ((p1.len : Nat) : Int) - Int.toNat 1) : Nat) ∧ Option.isSome (if p1.cap = Int.toNat 1 then p1.a else Option.map (fun q => Addr.add q (Int.toNat 1 * 6)) p1.a) = true) ∧
 ∃ x4 : BdV, View.has V2 (Option.map (fun q => Addr.add q (Int.toNat x3.t16 * 6)) (if p1.cap = Int.toNat 1 then p1.a else Option.map (fun q => Addr.add q (Int.toNat 1 * 6)) p1.a)) (x4.val).cells.toList ∧ Option.isSome (Option.map (fun q => Addr.add q (Int.toNat x3.t16 * 6)) (if p1.cap = Int.toNat 1 then p1.a else Option.map (fun q => Addr.add q (Int.toNat 1 * 6)) p1.a)) = true ∧
 CallV Tryz.prog 239 #[x4.val, x3.o6.val, .pointer (some (Addr.mk b1 0 none))] V2 fun v V3 => ∃ r1 : Bool, v = .bool r1 ∧
 (r1 = true →
 B0 (C_box_pick_0.mk (.func (.func 239) #[] #[.pointer (some (Addr.mk b1 0 none))])) (L_box_pick_0.mk (i64.wrap (x3.t16 + 1)) x3.o4 x4) V3 x3 V2) ∧
 (r1 = false →
 B0 (C_box_pick_0.mk (.func (.func 239) #[] #[.pointer (some (Addr.mk b1 0 none))])) (L_box_pick_0.mk (i64.wrap (x3.t16 + 1)) x3.o4 x3.o6) V3 x3 V2)) ∧
 ((decide ((x3.t16 : Int) < ((Int.toNat ((p1.len : Nat) : Int) - Int.toNat 1 : Nat) : Int))) = false →
 R (x3.o6.val) V2))

theorem box_pick_v0 (p0 : Int) (p1 : Sl) (V : View) (R : Value → View → Prop) (I0 : C_box_pick_0 → L_box_pick_0 → View → Prop) (J0 : C_box_pick_0 → L_box_pick_0 → View → Nat) {X : Prop} (e : box_pick_sk p0 p1 V R I0 I0 (fun c w V x U => I0 c w V ∧ J0 c w V < J0 c x U) = X) (h : X) :
 CallV Tryz.prog 193 #[.int .i64 p0, p1.v] V R :=
 calls_of_vc (Shp := Shp) hmixed Tryz.func193 (c := Tryz.f193.body.getD .skip) (args := [.int .i64 p0, p1.v]) (by kernel_rfl)
 (.seq (.reg [A 2 3, A 4 3]) (.seq (.pub 2 (.reg [A 9 0, A 5 2])) (.seq (.reg [A 10 2, A 11 7, A 12 5, A 6 3, A 6 6]) (.seq (.seq (.reg [A 13 2, A 14 7, A 15 0, A 16 2]) (.block (.loop C_box_pick_0 L_box_pick_0 (fun σ => C_box_pick_0.mk (gVal (gTm σ 5))) (fun c x => { tm := spT 27 0 [(4, .own 4 0), (5, .val (c.t5)), (6, .own 6 0), (14, .val (.slice (if p1.cap = Int.toNat 1 then p1.a else Option.map (fun q => Addr.add q (Int.toNat 1 * 6)) p1.a) (Int.toNat ((p1.len : Nat) : Int) - Int.toNat 1) (p1.cap - Int.toNat 1))), (15, .val (.int .i64 ((Int.toNat ((p1.len : Nat) : Int) - Int.toNat 1 : Nat) : Int))), (16, .val (.int .i64 x.t16))], own := spO 27 0 [(4, ⟨136, .fixed [.val (.int .i64 x.o4.inf), .val (.bool x.o4.x.re.neg), .val (x.o4.x.re.mag.v), .val (.bool x.o4.x.im.neg), .val (x.o4.x.im.mag.v), .val (x.o4.x.under.v)]⟩), (6, ⟨136, .fixed [.val (.int .i64 x.o6.inf), .val (.bool x.o6.x.re.neg), .val (x.o6.x.re.mag.v), .val (.bool x.o6.x.im.neg), .val (x.o6.x.im.mag.v), .val (x.o6.x.under.v)]⟩)] }) I0 J0 (.seq (.reg [A 17 0]) (.seq (.cond .leaf .leaf) (.seq (.block (.seq (.reg [A 18 7, A 19 5, A 8 3, A 8 6]) (.seq (.reg [A 20 2, A 8 4, A 6 4, A 23 10]) (.cond (.reg [A 8 4, A 6 6]) .leaf)))) (.reg [A 25 0, A 16 2]))))))) (.seq (.reg [A 6 4, A 4 6]) .leaf)))))
 (Eq.mpr (by kernel_rfl) (show box_pick_sk p0 p1 V R I0 (fun c w V => ∃ x, box_pick_f0 p1 c w x ∧ I0 c x V) (fun c w V y U => ∃ x, box_pick_f0 p1 c w x ∧ I0 c x V ∧ J0 c x V < J0 c y U) from by
 have h := Eq.mpr e h; unfold box_pick_sk at h ⊢; have Ee0 := fun c w V (h : I0 c w V) => (⟨w, ⟨⟨rfl, rfl, rfl, rfl, rfl, rfl, trivial⟩, ⟨rfl, rfl, trivial⟩⟩, h⟩ : ∃ x, box_pick_f0 p1 c w x ∧ I0 c x V); have Bb0 := fun c w V y U (h : I0 c w V ∧ J0 c w V < J0 c y U) => (⟨w, ⟨⟨rfl, rfl, rfl, rfl, rfl, rfl, trivial⟩, ⟨rfl, rfl, trivial⟩⟩, h⟩ : ∃ x, box_pick_f0 p1 c w x ∧ I0 c x V ∧ J0 c x V < J0 c y U); exact (fun b1 V1 h13 h14 => ⟨(h b1 V1 h13 h14).1, (match (h b1 V1 h13 h14).2 with | ⟨x1, h11, h12, h10⟩ => ⟨x1, h11, h12, ⟨h10.1, ⟨(Ee0 _ _ _ h10.2.1), fun x3 V2 h8 h9 => ⟨fun h7 => ⟨((h10.2.2 x3 V2 h8 h9).1 h7).1, (match ((h10.2.2 x3 V2 h8 h9).1 h7).2 with | ⟨x4, h5, h6, h4⟩ => ⟨x4, h5, h6, (CallV.mono h4 (fun _ _ _ ⟨r1, h3, h2⟩ => ⟨r1, h3, ⟨fun h1 => (Bb0 _ _ _ _ _ (h2.1 h1)), fun h1 => (Bb0 _ _ _ _ _ (h2.2 h1))⟩⟩))⟩)⟩, fun h7 => ((h10.2.2 x3 V2 h8 h9).2 h7)⟩⟩⟩⟩)⟩)))

theorem box_pick_vc : type_of% (fun p0 p1 V R I0 J0 => box_pick_v0 p0 p1 V R I0 J0 (box_pick_sk.eq_1 ..)) := fun p0 p1 V R I0 J0 => box_pick_v0 p0 p1 V R I0 J0 (box_pick_sk.eq_1 ..)

theorem box_least_vc (p0 : Sl) (V : View) (R : Value → View → Prop) 
 (h :
 CallV Tryz.prog 193 #[.int .i64 (-1), p0.v] V fun v V1 => ∃ r1 : BdV, v = r1.val ∧
 R (r1.val) V1) :
 CallV Tryz.prog 110 #[p0.v] V R :=
 calls_of_vc (Shp := Shp) hmixed Tryz.func110 (c := Tryz.f110.body.getD .skip) (args := [p0.v]) (by kernel_rfl)
 (.seq (.reg [A 2 3]) (.seq (.reg [A 3 2, A 4 10, A 2 6]) .leaf))
 (Eq.mpr (by kernel_rfl) h)

theorem box_greatest_vc (p0 : Sl) (V : View) (R : Value → View → Prop) 
 (h :
 CallV Tryz.prog 193 #[.int .i64 1, p0.v] V fun v V1 => ∃ r1 : BdV, v = r1.val ∧
 R (r1.val) V1) :
 CallV Tryz.prog 111 #[p0.v] V R :=
 calls_of_vc (Shp := Shp) hmixed Tryz.func111 (c := Tryz.f111.body.getD .skip) (args := [p0.v]) (by kernel_rfl)
 (.seq (.reg [A 2 3]) (.seq (.reg [A 3 2, A 4 10, A 2 6]) .leaf))
 (Eq.mpr (by kernel_rfl) h)

theorem set_neg_vc (p0 : SetV) (V : View) (R : Value → View → Prop) 
 (h :
 CallV Tryz.prog 147 #[p0.hi.val] V fun v V1 => ∃ r1 : BdV, v = r1.val ∧
 CallV Tryz.prog 147 #[p0.lo.val] V1 fun v V2 => ∃ r2 : BdV, v = r2.val ∧
 R ((SetV.mk r1 r2).val) V2) :
 CallV Tryz.prog 102 #[p0.val] V R :=
 calls_of_vc (Shp := Shp) hmixed Tryz.func102 (c := Tryz.f102.body.getD .skip) (args := [p0.val]) (by kernel_rfl)
 (.seq (.reg [A 1 3, A 2 3]) (.seq (.draw [(0, A 3 7), (1, A 1 4), (3, A 6 7), (4, A 1 4), (2, A 5 10), (5, A 8 10), (6, A 9 0), (7, A 2 6)] [0, 1, 3, 0, 8, 31, 63, 127]) .leaf))
 (Eq.mpr (by kernel_rfl) h)

theorem set_add_vc (p0 : SetV) (p1 : SetV) (V : View) (R : Value → View → Prop) 
 (h :
 CallV Tryz.prog 203 #[p0.lo.val, p1.lo.val] V fun v V1 => ∃ r1 : BdV, v = r1.val ∧
 CallV Tryz.prog 203 #[p0.hi.val, p1.hi.val] V1 fun v V2 => ∃ r2 : BdV, v = r2.val ∧
 R ((SetV.mk r1 r2).val) V2) :
 CallV Tryz.prog 121 #[p0.val, p1.val] V R :=
 calls_of_vc (Shp := Shp) hmixed Tryz.func121 (c := Tryz.f121.body.getD .skip) (args := [p0.val, p1.val]) (by kernel_rfl)
 (.seq (.reg [A 2 3, A 3 3, A 4 3]) (.seq (.draw [(0, A 5 7), (1, A 2 4), (2, A 7 7), (3, A 3 4), (5, A 10 7), (6, A 2 4), (7, A 12 7), (8, A 3 4), (4, A 9 10), (9, A 14 10), (10, A 15 0), (11, A 4 6)] [0, 1, 0, 4, 15, 0, 32, 0, 128, 511, 1023, 2047]) .leaf))
 (Eq.mpr (by kernel_rfl) h)

theorem set_mul_vc (p0 : SetV) (p1 : SetV) (V : View) (R : Value → View → Prop) 
 (h :
 CallV Tryz.prog 202 #[p0.lo.val, p1.lo.val] V fun v V1 => ∃ r1 : BdV, v = r1.val ∧
 CallV Tryz.prog 202 #[p0.lo.val, p1.hi.val] V1 fun v V2 => ∃ r2 : BdV, v = r2.val ∧
 CallV Tryz.prog 202 #[p0.hi.val, p1.lo.val] V2 fun v V3 => ∃ r3 : BdV, v = r3.val ∧
 CallV Tryz.prog 202 #[p0.hi.val, p1.hi.val] V3 fun v V4 => ∃ r4 : BdV, v = r4.val ∧
 ∀ (b1 : Nat) (V5 : View), View.le V4 V5 → View.Fin V5 → V5 b1 = some #[.int .i64 r1.inf, .bool r1.x.re.neg, r1.x.re.mag.v, .bool r1.x.im.neg, r1.x.im.mag.v, r1.x.under.v, .int .i64 r2.inf, .bool r2.x.re.neg, r2.x.re.mag.v, .bool r2.x.im.neg, r2.x.im.mag.v, r2.x.under.v, .int .i64 r3.inf, .bool r3.x.re.neg, r3.x.re.mag.v, .bool r3.x.im.neg, r3.x.im.mag.v, r3.x.under.v, .int .i64 r4.inf, .bool r4.x.re.neg, r4.x.re.mag.v, .bool r4.x.im.neg, r4.x.im.mag.v, r4.x.under.v] →
 CallV Tryz.prog 110 #[(Sl.mk (some (Addr.mk b1 0 none)) 4 4).v] V5 fun v V6 => ∃ r5 : BdV, v = r5.val ∧
 ∀ (b2 : Nat) (V7 : View), View.le V6 V7 → View.Fin V7 → V7 b2 = some #[.int .i64 r1.inf, .bool r1.x.re.neg, r1.x.re.mag.v, .bool r1.x.im.neg, r1.x.im.mag.v, r1.x.under.v, .int .i64 r2.inf, .bool r2.x.re.neg, r2.x.re.mag.v, .bool r2.x.im.neg, r2.x.im.mag.v, r2.x.under.v, .int .i64 r3.inf, .bool r3.x.re.neg, r3.x.re.mag.v, .bool r3.x.im.neg, r3.x.im.mag.v, r3.x.under.v, .int .i64 r4.inf, .bool r4.x.re.neg, r4.x.re.mag.v, .bool r4.x.im.neg, r4.x.im.mag.v, r4.x.under.v] →
 CallV Tryz.prog 111 #[(Sl.mk (some (Addr.mk b2 0 none)) 4 4).v] V7 fun v V8 => ∃ r6 : BdV, v = r6.val ∧
 R ((SetV.mk r5 r6).val) V8) :
 CallV Tryz.prog 120 #[p0.val, p1.val] V R :=
 calls_of_vc (Shp := Shp) hmixed Tryz.func120 (c := Tryz.f120.body.getD .skip) (args := [p0.val, p1.val]) (by kernel_rfl)
 (.seq (.reg [A 2 3, A 3 3, A 4 3]) (.seq (.draw [(0, A 9 7), (1, A 2 4), (2, A 11 7), (3, A 3 4), (5, A 14 7), (6, A 2 4), (7, A 16 7), (8, A 3 4), (10, A 19 7), (11, A 2 4), (12, A 21 7), (13, A 3 4), (15, A 24 7), (16, A 2 4), (17, A 26 7), (18, A 3 4), (20, A 5 3), (21, A 6 3), (22, A 7 3), (23, A 8 3), (4, A 13 10), (9, A 18 10), (14, A 23 10), (19, A 28 10), (24, A 5 6), (25, A 6 6), (26, A 7 6), (27, A 8 6)] [0, 1, 0, 4, 15, 0, 32, 0, 128, 511, 0, 1024, 0, 4096, 16383, 0, 32768, 0, 131072, 524287, 0, 0, 0, 0, 16777215, 33554431, 67108863, 134217727]) (.seq (.draw [(0, A 5 4), (1, A 6 4), (2, A 7 4), (3, A 8 4), (6, A 5 4), (7, A 6 4), (8, A 7 4), (9, A 8 4), (4, A 33 11), (5, A 34 10), (10, A 39 11), (11, A 40 10), (12, A 41 0), (13, A 4 6)] [0, 0, 0, 0, 15, 31, 0, 0, 0, 0, 960, 2047, 4095, 8191]) .leaf)))
 (Eq.mpr (by kernel_rfl) h)

theorem set_zero_vc (p0 : SetV) (V : View) (R : Value → View → Prop) 
 (h :
 CallV Tryz.prog 185 #[p0.lo.val] V fun v V1 => ∃ r1 : Int, v = .int .i64 r1 ∧
 ((decide ((r1 : Int) ≤ 0)) = true →
 CallV Tryz.prog 185 #[p0.hi.val] V1 fun v V2 => ∃ r2 : Int, v = .int .i64 r2 ∧
 R (.bool (decide ((r2 : Int) ≥ 0))) V2) ∧
 ((decide ((r1 : Int) ≤ 0)) = false →
 R (.bool false) V1)) :
 CallV Tryz.prog 154 #[p0.val] V R :=
 calls_of_vc (Shp := Shp) hmixed Tryz.func154 (c := Tryz.f154.body.getD .skip) (args := [p0.val]) (by kernel_rfl)
 (.seq (.reg [A 1 3, A 2 9]) (.seq (.reg [A 3 7, A 1 4, A 5 10, A 6 0, ⟨7, 2, true⟩, A 8 7, A 1 4, A 10 10, A 11 0, A 12 20, A 2 2]) .leaf))
 (Eq.mpr (by kernel_rfl) h)

theorem set_span_vc (p0 : SetV) (V : View) (R : Value → View → Prop) 
 (h :
 CallV Tryz.prog 159 #[.int .i64 (-1)] V fun v V1 => ∃ r1 : Nat, v = .float .f64 r1 ∧
 CallV Tryz.prog 159 #[.int .i64 1] V1 fun v V2 => ∃ r2 : Nat, v = .float .f64 r2 ∧
 (((p0.lo.inf : Int) == 0) = true →
 CallV Tryz.prog 186 #[p0.lo.x.val] V2 fun v V3 => ∃ r3 : Nat, v = .float .f64 r3 ∧
 (((p0.hi.inf : Int) == 0) = true →
 CallV Tryz.prog 187 #[p0.hi.x.val] V3 fun v V4 => ∃ r4 : Nat, v = .float .f64 r4 ∧
 R ((SpV.mk r3 r4).val) V4) ∧
 (((p0.hi.inf : Int) == 0) = false →
 R ((SpV.mk r3 r2).val) V3)) ∧
 (((p0.lo.inf : Int) == 0) = false →
 (((p0.hi.inf : Int) == 0) = true →
 CallV Tryz.prog 187 #[p0.hi.x.val] V2 fun v V5 => ∃ r5 : Nat, v = .float .f64 r5 ∧
 R ((SpV.mk r1 r5).val) V5) ∧
 (((p0.hi.inf : Int) == 0) = false →
 R ((SpV.mk r1 r2).val) V2))) :
 CallV Tryz.prog 101 #[p0.val] V R :=
 calls_of_vc (Shp := Shp) hmixed Tryz.func101 (c := Tryz.f101.body.getD .skip) (args := [p0.val]) (by kernel_rfl)
 (.seq (.reg [A 1 3, A 2 3]) (.seq (.reg [A 5 10, A 6 10, A 3 2, A 4 2]) (.seq (.seq (.reg [A 7 7, A 8 7, A 1 4, A 10 0]) (.cond (.reg [A 11 7, A 12 7, A 1 4, A 14 10, A 3 2]) .leaf)) (.seq (.seq (.reg [A 15 7, A 16 7, A 1 4, A 18 0]) (.cond (.reg [A 19 7, A 20 7, A 1 4, A 22 10, A 4 2]) .leaf)) (.seq (.reg [A 23 2, A 24 2, A 25 0, A 2 6]) .leaf)))))
 (Eq.mpr (by kernel_rfl) h)

end Go.Proofs.YtkibfmnkkiakoaaGreat
