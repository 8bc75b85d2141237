/- Part of the proof; it has the parts GRb4. -/
import Derived.Test.YtkibfmnkkiakoaaGreatGBl6
set_option maxRecDepth 100000
set_option maxHeartbeats 4000000
namespace Go.Proofs.YtkibfmnkkiakoaaGreat
open Go Go.Vc Go.Proofs
open Go.IntKind (i8 i16 i32 i64 u8 u16 u32 u64)

theorem ref1_Zero_vc (p0 : NumV) (V : View) (R : Value → View → Prop) 
 (h :
 ((((p0.re.mag.len : Int) : Int) == 0) = true →
 R (.bool (((p0.im.mag.len : Int) : Int) == 0)) V) ∧
 ((((p0.re.mag.len : Int) : Int) == 0) = false →
 R (.bool false) V)) :
 CallV Tryz.prog 260 #[p0.val] V R :=
 calls_of_vc (Shp := Shp) hmixed Tryz.func260 (c := Tryz.f260.body.getD .skip) (args := [p0.val]) (by kernel_rfl)
 (.seq (.reg [A 1 3, A 2 9]) (.seq (.reg [A 3 7, A 4 7, A 1 4, A 6 0, A 7 0, ⟨8, 2, true⟩, A 9 7, A 10 7, A 1 4, A 12 0, A 13 0, A 14 20, A 2 2]) .leaf))
 (Eq.mpr (by kernel_rfl) h)

theorem ref1_Norm_vc (p0 : NumV) (V : View) (R : Value → View → Prop) 
 (h :
 CallV Tryz.prog 262 #[p0.val] V fun v V1 => ∃ r1 : NumV, v = r1.val ∧
 CallV Tryz.prog 234 #[p0.val, r1.val] V1 fun v V2 => ∃ r2 : NumV, v = r2.val ∧
 R (r2.val) V2) :
 CallV Tryz.prog 261 #[p0.val] V R :=
 calls_of_vc (Shp := Shp) hmixed Tryz.func261 (c := Tryz.f261.body.getD .skip) (args := [p0.val]) (by kernel_rfl)
 (.seq (.reg [A 1 3, A 2 3]) (.seq (.draw [(0, A 1 4), (1, A 1 4), (2, A 5 10), (3, A 6 10), (4, A 2 6)] [0, 0, 2, 7, 15]) .leaf))
 (Eq.mpr (by kernel_rfl) h)

theorem ref1_Div_vc (p0 : NumV) (p1 : NumV) (V : View) (R : Value → View → Prop) 
 (h :
 CallV Tryz.prog 260 #[p1.val] V fun v V1 => ∃ r1 : Bool, v = .bool r1 ∧
 (r1 = true →
 CallV Tryz.prog 108 #[.int .i64 0] V1 fun v V2 => ∃ r2 : NumV, v = r2.val ∧
 R (.tuple #[r2.val, .int .i64 3]) V2) ∧
 (r1 = false →
 CallV Tryz.prog 261 #[p1.val] V1 fun v V3 => ∃ r3 : NumV, v = r3.val ∧
 CallV Tryz.prog 262 #[p1.val] V3 fun v V4 => ∃ r4 : NumV, v = r4.val ∧
 CallV Tryz.prog 234 #[p0.val, r4.val] V4 fun v V5 => ∃ r5 : NumV, v = r5.val ∧
 CallV Tryz.prog 249 #[r5.re.val, (WhV.mk false r3.under).val] V5 fun v V6 => ∃ r6 : WhV, v = r6.val ∧
 CallV Tryz.prog 249 #[r5.im.val, (WhV.mk false r3.under).val] V6 fun v V7 => ∃ r7 : WhV, v = r7.val ∧
 CallV Tryz.prog 250 #[r5.under.v, r3.re.mag.v] V7 fun v V8 => ∃ r8 : Sl, v = r8.v ∧
 CallV Tryz.prog 196 #[r6.val, r7.val, r8.v] V8 fun v V9 => ∃ r9 : NumV, v = r9.val ∧
 R (.tuple #[r9.val, .int .i64 0]) V9)) :
 CallV Tryz.prog 222 #[p0.val, p1.val] V R :=
 calls_of_vc (Shp := Shp) hmixed Tryz.func222 (c := Tryz.f222.body.getD .skip) (args := [p0.val, p1.val]) (by kernel_rfl)
 (.seq (.reg [A 2 3, A 3 3, A 4 3, A 5 2]) (.seq (.seq (.reg [A 3 4, A 10 10]) (.cond (.seq (.reg [A 11 10, A 4 6, A 5 2]) .leaf) .leaf)) (.seq (.reg [A 3 4, A 13 10, A 6 3, A 6 6]) (.seq (.draw [(0, A 2 4), (1, A 3 4), (4, A 7 3), (2, A 16 10), (3, A 17 10), (5, A 7 6)] [0, 0, 2, 7, 0, 31]) (.seq (.reg [A 18 7, A 6 4, A 20 0, A 8 3, A 8 6]) (.seq (.draw [(0, A 21 7), (1, A 7 4), (2, A 8 4), (4, A 25 7), (5, A 7 4), (6, A 8 4), (8, A 29 7), (9, A 7 4), (10, A 31 7), (11, A 32 7), (12, A 6 4), (3, A 24 10), (7, A 28 10), (13, A 34 10), (14, A 35 10), (15, A 4 6), (16, A 5 2)] [0, 1, 0, 7, 0, 16, 0, 127, 0, 256, 0, 1024, 3072, 8191, 16383, 32767, 65535]) .leaf))))))
 (Eq.mpr (by kernel_rfl) h)

theorem ref2_ratio_vc (p0 : BdV) (p1 : BdV) (V : View) (R : Value → View → Prop) 
 (h :
 (((p0.inf : Int) != 0) = true →
 CallV Tryz.prog 108 #[.int .i64 0] V fun v V1 => ∃ r1 : NumV, v = r1.val ∧
 CallV Tryz.prog 114 #[r1.val] V1 fun v V2 => ∃ r2 : BdV, v = r2.val ∧
 R (r2.val) V2) ∧
 (((p0.inf : Int) != 0) = false →
 (((p1.inf : Int) != 0) = true →
 CallV Tryz.prog 108 #[.int .i64 0] V fun v V3 => ∃ r3 : NumV, v = r3.val ∧
 CallV Tryz.prog 114 #[r3.val] V3 fun v V4 => ∃ r4 : BdV, v = r4.val ∧
 R (r4.val) V4) ∧
 (((p1.inf : Int) != 0) = false →
 CallV Tryz.prog 234 #[p0.x.val, p0.x.val] V fun v V5 => ∃ r5 : NumV, v = r5.val ∧
 CallV Tryz.prog 234 #[p1.x.val, p1.x.val] V5 fun v V6 => ∃ r6 : NumV, v = r6.val ∧
 CallV Tryz.prog 204 #[r5.val, r6.val] V6 fun v V7 => ∃ r7 : NumV, v = r7.val ∧
 CallV Tryz.prog 222 #[p0.x.val, r7.val] V7 fun v V8 => ∃ (r8 : NumV) (r9 : Int), v = .tuple #[r8.val, .int .i64 r9] ∧
 CallV Tryz.prog 114 #[r8.val] V8 fun v V9 => ∃ r10 : BdV, v = r10.val ∧
 R (r10.val) V9))) :
 CallV Tryz.prog 188 #[p0.val, p1.val] V R :=
 calls_of_vc (Shp := Shp) hmixed Tryz.func188 (c := Tryz.f188.body.getD .skip) (args := [p0.val, p1.val]) (by kernel_rfl)
 (.seq (.reg [A 2 3, A 3 3, A 4 3]) (.seq (.seq (.reg [A 7 7, A 2 4, A 9 0, ⟨10, 2, true⟩, A 11 7, A 3 4, A 13 0, A 14 20]) (.cond (.seq (.reg [A 15 10, A 16 10, A 4 6]) .leaf) .leaf)) (.seq (.draw [(0, A 18 7), (1, A 2 4), (2, A 20 7), (3, A 2 4), (4, A 22 7), (5, A 2 4), (7, A 25 7), (8, A 3 4), (9, A 27 7), (10, A 3 4), (17, A 5 3), (6, A 24 10), (11, A 29 10), (12, A 30 10), (13, A 31 10), (14, A 17 2), (15, A 32 0), (16, A 33 0), (18, A 5 6), (19, A 6 2)] [0, 1, 0, 4, 0, 16, 60, 0, 128, 0, 512, 2044, 4092, 8191, 16383, 32767, 32767, 0, 196607, 524287]) (.seq (.reg [A 5 4, A 35 10, A 4 6]) .leaf))))
 (Eq.mpr (by kernel_rfl) h)

structure L_ref2_ratios_0 where
 t5l : Nat
 t5c : Nat
 t8 : Int
 o5 : List Value
structure C_ref2_ratios_0 where
 t6 : Sl
 t7 : Sl
structure L_ref2_ratios_1 where
 t5l : Nat
 t5c : Nat
 t9 : Int
 o5 : List Value
structure C_ref2_ratios_1 where
 t6 : Sl
 t7 : Sl
 t8 : Int
structure L_ref2_ratios_2 where
 t5l : Nat
 t5c : Nat
 o5 : List Value
structure C_ref2_ratios_2 where
 t6 : Sl
 t7 : Sl
 t8 : Int
structure L_ref2_ratios_3 where
 t5l : Nat
 t5c : Nat
 t89 : Int
 o5 : List Value
structure C_ref2_ratios_3 where
 t6 : Sl
 t7 : Sl
 t8 : Int
 t87 : Sl
def ref2_ratios_f0 (p1 : SpV) (c : C_ref2_ratios_0) (w x : L_ref2_ratios_0) : Prop := (Q1 (.own 3 0) ∧ E2 (.lst 5 w.t5l w.t5c) (.lst 5 x.t5l x.t5c) ∧ Q1 (.val (c.t6.v)) ∧ Q1 (.val (c.t7.v)) ∧ E2 (.val (.int .i64 w.t8)) (.val (.int .i64 x.t8)) ∧ True) ∧ (O2 ⟨34, .fixed [.val (.float .f64 p1.lo), .val (.float .f64 p1.hi)]⟩ ⟨34, .fixed [.val (.float .f64 p1.lo), .val (.float .f64 p1.hi)]⟩ ∧ O2 ⟨145, .list w.o5⟩ ⟨145, .list x.o5⟩ ∧ True)
def ref2_ratios_f1 (p1 : SpV) (c : C_ref2_ratios_1) (w x : L_ref2_ratios_1) : Prop := (Q1 (.own 3 0) ∧ E2 (.lst 5 w.t5l w.t5c) (.lst 5 x.t5l x.t5c) ∧ Q1 (.val (c.t6.v)) ∧ Q1 (.val (c.t7.v)) ∧ Q1 (.val (.int .i64 c.t8)) ∧ E2 (.val (.int .i64 w.t9)) (.val (.int .i64 x.t9)) ∧ True) ∧ (O2 ⟨34, .fixed [.val (.float .f64 p1.lo), .val (.float .f64 p1.hi)]⟩ ⟨34, .fixed [.val (.float .f64 p1.lo), .val (.float .f64 p1.hi)]⟩ ∧ O2 ⟨145, .list w.o5⟩ ⟨145, .list x.o5⟩ ∧ True)
def ref2_ratios_f2 (p1 : SpV) (c : C_ref2_ratios_2) (w x : L_ref2_ratios_2) : Prop := (Q1 (.own 3 0) ∧ E2 (.lst 5 w.t5l w.t5c) (.lst 5 x.t5l x.t5c) ∧ Q1 (.val (c.t6.v)) ∧ Q1 (.val (c.t7.v)) ∧ Q1 (.val (.int .i64 c.t8)) ∧ True) ∧ (O2 ⟨34, .fixed [.val (.float .f64 p1.lo), .val (.float .f64 p1.hi)]⟩ ⟨34, .fixed [.val (.float .f64 p1.lo), .val (.float .f64 p1.hi)]⟩ ∧ O2 ⟨145, .list w.o5⟩ ⟨145, .list x.o5⟩ ∧ True)
def ref2_ratios_f3 (p1 : SpV) (c : C_ref2_ratios_3) (w x : L_ref2_ratios_3) : Prop := (Q1 (.own 3 0) ∧ E2 (.lst 5 w.t5l w.t5c) (.lst 5 x.t5l x.t5c) ∧ Q1 (.val (c.t6.v)) ∧ Q1 (.val (c.t7.v)) ∧ Q1 (.val (.int .i64 c.t8)) ∧ Q1 (.val (c.t87.v)) ∧ Q1 (.val (.int .i64 ((2 : Nat) : Int))) ∧ E2 (.val (.int .i64 w.t89)) (.val (.int .i64 x.t89)) ∧ True) ∧ (O2 ⟨34, .fixed [.val (.float .f64 p1.lo), .val (.float .f64 p1.hi)]⟩ ⟨34, .fixed [.val (.float .f64 p1.lo), .val (.float .f64 p1.hi)]⟩ ∧ O2 ⟨145, .list w.o5⟩ ⟨145, .list x.o5⟩ ∧ True)
def ref2_ratios_sk (p0 : SpV) (p1 : SpV) (V : View) (R : Value → View → Prop) (I0 : C_ref2_ratios_0 → L_ref2_ratios_0 → View → Prop) (I1 : C_ref2_ratios_1 → L_ref2_ratios_1 → View → Prop) (I2 : C_ref2_ratios_2 → L_ref2_ratios_2 → View → Prop) (I3 : C_ref2_ratios_3 → L_ref2_ratios_3 → View → Prop) (E0 : C_ref2_ratios_0 → L_ref2_ratios_0 → View → Prop) (B0 : C_ref2_ratios_0 → L_ref2_ratios_0 → View → L_ref2_ratios_0 → View → Prop) (E1 : C_ref2_ratios_1 → L_ref2_ratios_1 → View → Prop) (B1 : C_ref2_ratios_1 → L_ref2_ratios_1 → View → L_ref2_ratios_1 → View → Prop) (E2 : C_ref2_ratios_2 → L_ref2_ratios_2 → View → Prop) (E3 : C_ref2_ratios_3 → L_ref2_ratios_3 → View → Prop) (B3 : C_ref2_ratios_3 → L_ref2_ratios_3 → View → L_ref2_ratios_3 → View → Prop) : Prop :=
 CallV Tryz.prog 119 #[.float .f64 p0.lo] V fun v V1 => ∃ r1 : BdV, v = r1.val ∧
 CallV Tryz.prog 119 #[.float .f64 p0.hi] V1 fun v V2 => ∃ r2 : BdV, v = r2.val ∧
 CallV Tryz.prog 119 #[.float .f64 p1.lo] V2 fun v V3 => ∃ r3 : BdV, v = r3.val ∧
 CallV Tryz.prog 119 #[.float .f64 p1.hi] V3 fun v V4 => ∃ r4 : BdV, v = r4.val ∧
 ∀ (b1 : Nat) (V5 : View), View.le V4 V5 → View.Fin V5 → V5 b1 = some #[.int .i64 r1.inf, .bool r1.x.re.neg, r1.x.re.mag.v, .bool r1.x.im.neg, r1.x.im.mag.v, r1.x.under.v, .int .i64 r2.inf, .bool r2.x.re.neg, r2.x.re.mag.v, .bool r2.x.im.neg, r2.x.im.mag.v, r2.x.under.v] →
 ∀ (b2 : Nat) (V6 : View), View.le V5 V6 → View.Fin V6 → V6 b2 = some #[.int .i64 r3.inf, .bool r3.x.re.neg, r3.x.re.mag.v, .bool r3.x.im.neg, r3.x.im.mag.v, r3.x.under.v, .int .i64 r4.inf, .bool r4.x.re.neg, r4.x.re.mag.v, .bool r4.x.im.neg, r4.x.im.mag.v, r4.x.under.v] →
 E0 (C_ref2_ratios_0.mk (Sl.mk (some (Addr.mk b1 0 none)) 2 2) (Sl.mk (some (Addr.mk b2 0 none)) 2 2)) (L_ref2_ratios_0.mk 0 0 0 ([] : List Value)) V6 ∧
 (∀ (x2 : L_ref2_ratios_0) (V7 : View), View.le V6 V7 → I0 (C_ref2_ratios_0.mk (Sl.mk (some (Addr.mk b1 0 none)) 2 2) (Sl.mk (some (Addr.mk b2 0 none)) 2 2)) x2 V7 →
 ((decide ((x2.t8 : Int) < 2)) = true →
 E1 (C_ref2_ratios_1.mk (Sl.mk (some (Addr.mk b1 0 none)) 2 2) (Sl.mk (some (Addr.mk b2 0 none)) 2 2) x2.t8) (L_ref2_ratios_1.mk x2.t5l x2.t5c 0 x2.o5) V7 ∧
 (∀ (x4 : L_ref2_ratios_1) (V8 : View), View.le V7 V8 → I1 (C_ref2_ratios_1.mk (Sl.mk (some (Addr.mk b1 0 none)) 2 2) (Sl.mk (some (Addr.mk b2 0 none)) 2 2) x2.t8) x4 V8 →
 ((decide ((x4.t9 : Int) < 2)) = true →
 ((0 : Int) ≤ x2.t8 ∧ (x2.t8 : Int) < (2 : Nat) ∧ Option.isSome (some (Addr.mk b1 0 none)) = true) ∧
 ∃ x5 : BdV, View.has V8 (Option.map (fun q => Addr.add q (Int.toNat x2.t8 * 6)) (some (Addr.mk b1 0 none))) (x5.val).cells.toList ∧ Option.isSome (Option.map (fun q => Addr.add q (Int.toNat x2.t8 * 6)) (some (Addr.mk b1 0 none))) = true ∧
 ((0 : Int) ≤ x4.t9 ∧ (x4.t9 : Int) < (2 : Nat) ∧ Option.isSome (some (Addr.mk b2 0 none)) = true) ∧
 ∃ x6 : BdV, View.has V8 (Option.map (fun q => Addr.add q (Int.toNat x4.t9 * 6)) (some (Addr.mk b2 0 none))) (x6.val).cells.toList ∧ Option.isSome (Option.map (fun q => Addr.add q (Int.toNat x4.t9 * 6)) (some (Addr.mk b2 0 none))) = true ∧
 CallV Tryz.prog 188 #[x5.val, x6.val] V8 fun v V9 => ∃ r5 : BdV, v = r5.val ∧
 ∀ (b3 : Nat) (V10 : View), View.le V9 V10 → View.Fin V10 → V10 b3 = some #[.int .i64 r5.inf, .bool r5.x.re.neg, r5.x.re.mag.v, .bool r5.x.im.neg, r5.x.im.mag.v, r5.x.under.v] →
 ∃ (l1 : List Value) (l2 : List Value), LstOk 6 x4.t5l x4.t5c x4.o5 l1 ∧ View.has V10 (some (Addr.mk b3 0 none)) l2 ∧ List.length l2 = 1 * 6 ∧ (∀ v ∈ l2, Value.oneCell' v = true) ∧ x4.t5l + 1 ≤ maxLen ∧ (x4.t5l + 1) * 96 ≤ 140737488355328 ∧
 ∀ (c1 : Nat) (l3 : List Value), LstOk 6 (x4.t5l + 1) c1 l3 (l1 ++ l2) →
 B1 (C_ref2_ratios_1.mk (Sl.mk (some (Addr.mk b1 0 none)) 2 2) (Sl.mk (some (Addr.mk b2 0 none)) 2 2) x2.t8) (L_ref2_ratios_1.mk (x4.t5l + 1) c1 (i64.wrap (x4.t9 + 1)) l3) V10 x4 V8) ∧
 ((decide ((x4.t9 : Int) < 2)) = false →
 (((0 : Int) ≤ x2.t8 ∧ (x2.t8 : Int) < (2 : Nat) ∧ Option.isSome (some (Addr.mk b1 0 none)) = true) ∧
 Option.isSome (Option.map (fun q => Addr.add q (Int.toNat x2.t8 * 6)) (some (Addr.mk b1 0 none))) = true ∧
 ∃ x9 : Int, View.load V8 (Option.map (fun q => Addr.add q 0) (Option.map (fun q => Addr.add q (Int.toNat x2.t8 * 6)) (some (Addr.mk b1 0 none)))) = some (.int .i64 x9) ∧
 (((x9 : Int) == 0) = true →
 (((FloatKind.f64.format.order p1.lo 0 == some .lt) || (FloatKind.f64.format.order p1.lo 0 == some .eq)) = true →
 (((FloatKind.f64.format.order p1.hi 0 == some .gt) || (FloatKind.f64.format.order p1.hi 0 == some .eq)) = true →
 ((0 : Int) ≤ x2.t8 ∧ (x2.t8 : Int) < (2 : Nat) ∧ Option.isSome (some (Addr.mk b1 0 none)) = true) ∧
 ∃ x10 : BdV, View.has V8 (Option.map (fun q => Addr.add q (Int.toNat x2.t8 * 6)) (some (Addr.mk b1 0 none))) (x10.val).cells.toList ∧ Option.isSome (Option.map (fun q => Addr.add q (Int.toNat x2.t8 * 6)) (some (Addr.mk b1 0 none))) = true ∧
 CallV Tryz.prog 108 #[.int .i64 0] V8 fun v V12 => ∃ r6 : NumV, v = r6.val ∧
 CallV Tryz.prog 114 #[r6.val] V12 fun v V13 => ∃ r7 : BdV, v = r7.val ∧
 CallV Tryz.prog 188 #[x10.val, r7.val] V13 fun v V14 => ∃ r8 : BdV, v = r8.val ∧
 ∀ (b4 : Nat) (V15 : View), View.le V14 V15 → View.Fin V15 → V15 b4 = some #[.int .i64 r8.inf, .bool r8.x.re.neg, r8.x.re.mag.v, .bool r8.x.im.neg, r8.x.im.mag.v, r8.x.under.v] →
 ∃ (l4 : List Value) (l5 : List Value), LstOk 6 x4.t5l x4.t5c x4.o5 l4 ∧ View.has V15 (some (Addr.mk b4 0 none)) l5 ∧ List.length l5 = 1 * 6 ∧ (∀ v ∈ l5, Value.oneCell' v = true) ∧ x4.t5l + 1 ≤ maxLen ∧ (x4.t5l + 1) * 96 ≤ 140737488355328 ∧
 ∀ (c2 : Nat) (l6 : List Value), LstOk 6 (x4.t5l + 1) c2 l6 (l4 ++ l5) →
 E2 (C_ref2_ratios_2.mk (Sl.mk (some (Addr.mk b1 0 none)) 2 2) (Sl.mk (some (Addr.mk b2 0 none)) 2 2) x2.t8) (L_ref2_ratios_2.mk (x4.t5l + 1) c2 l6) V15) ∧
 (((FloatKind.f64.format.order p1.hi 0 == some .gt) || (FloatKind.f64.format.order p1.hi 0 == some .eq)) = false →
 E2 (C_ref2_ratios_2.mk (Sl.mk (some (Addr.mk b1 0 none)) 2 2) (Sl.mk (some (Addr.mk b2 0 none)) 2 2) x2.t8) (L_ref2_ratios_2.mk x4.t5l x4.t5c x4.o5) V8)) ∧
 (((FloatKind.f64.format.order p1.lo 0 == some .lt) || (FloatKind.f64.format.order p1.lo 0 == some .eq)) = false →
 E2 (C_ref2_ratios_2.mk (Sl.mk (some (Addr.mk b1 0 none)) 2 2) (Sl.mk (some (Addr.mk b2 0 none)) 2 2) x2.t8) (L_ref2_ratios_2.mk x4.t5l x4.t5c x4.o5) V8)) ∧
 (((x9 : Int) == 0) = false →
 E2 (C_ref2_ratios_2.mk (Sl.mk (some (Addr.mk b1 0 none)) 2 2) (Sl.mk (some (Addr.mk b2 0 none)) 2 2) x2.t8) (L_ref2_ratios_2.mk x4.t5l x4.t5c x4.o5) V8)) ∧
 (∀ (x8 : L_ref2_ratios_2) (V11 : View), View.le V8 V11 → I2 (C_ref2_ratios_2.mk (Sl.mk (some (Addr.mk b1 0 none)) 2 2) (Sl.mk (some (Addr.mk b2 0 none)) 2 2) x2.t8) x8 V11 →
 ((0 : Int) ≤ x2.t8 ∧ (x2.t8 : Int) < (2 : Nat) ∧ Option.isSome (some (Addr.mk b2 0 none)) = true) ∧
 Option.isSome (Option.map (fun q => Addr.add q (Int.toNat x2.t8 * 6)) (some (Addr.mk b2 0 none))) = true ∧
 ∃ x15 : Int, View.load V11 (Option.map (fun q => Addr.add q 0) (Option.map (fun q => Addr.add q (Int.toNat x2.t8 * 6)) (some (Addr.mk b2 0 none)))) = some (.int .i64 x15) ∧
 (((x15 : Int) != 0) = true →
 B0 (C_ref2_ratios_0.mk (Sl.mk (some (Addr.mk b1 0 none)) 2 2) (Sl.mk (some (Addr.mk b2 0 none)) 2 2)) (L_ref2_ratios_0.mk x8.t5l x8.t5c (i64.wrap (x2.t8 + 1)) x8.o5) V11 x2 V7) ∧
 (((x15 : Int) != 0) = false →
 ((0 : Int) ≤ x2.t8 ∧ (x2.t8 : Int) < (2 : Nat) ∧ Option.isSome (some (Addr.mk b2 0 none)) = true) ∧
 ∃ x17 : BdV, View.has V11 (Option.map (fun q => Addr.add q (Int.toNat x2.t8 * 6)) (some (Addr.mk b2 0 none))) (x17.val).cells.toList ∧ Option.isSome (Option.map (fun q => Addr.add q (Int.toNat x2.t8 * 6)) (some (Addr.mk b2 0 none))) = true ∧
 ((0 : Int) ≤ x2.t8 ∧ (x2.t8 : Int) < (2 : Nat) ∧ Option.isSome (some (Addr.mk b2 0 none)) = true) ∧
 ∃ x18 : BdV, View.has V11 (Option.map (fun q => Addr.add q (Int.toNat x2.t8 * 6)) (some (Addr.mk b2 0 none))) (x18.val).cells.toList ∧ Option.isSome (Option.map (fun q => Addr.add q (Int.toNat x2.t8 * 6)) (some (Addr.mk b2 0 none))) = true ∧
 CallV Tryz.prog 107 #[x18.val] V11 fun v V16 => ∃ r9 : BdV, v = r9.val ∧
 ∀ (b5 : Nat) (V17 : View), View.le V16 V17 → View.Fin V17 → V17 b5 = some #[.int .i64 x17.inf, .bool x17.x.re.neg, x17.x.re.mag.v, .bool x17.x.im.neg, x17.x.im.mag.v, x17.x.under.v, .int .i64 r9.inf, .bool r9.x.re.neg, r9.x.re.mag.v, .bool r9.x.im.neg, r9.x.im.mag.v, r9.x.under.v] →
 E3 (C_ref2_ratios_3.mk (Sl.mk (some (Addr.mk b1 0 none)) 2 2) (Sl.mk (some (Addr.mk b2 0 none)) 2 2) x2.t8 (Sl.mk (some (Addr.mk b5 0 none)) 2 2)) (L_ref2_ratios_3.mk x8.t5l x8.t5c 0 x8.o5) V17 ∧
 (∀ (x20 : L_ref2_ratios_3) (V18 : View), View.le V17 V18 → I3 (C_ref2_ratios_3.mk (Sl.mk (some (Addr.mk b1 0 none)) 2 2) (Sl.mk (some (Addr.mk b2 0 none)) 2 2) x2.t8 (Sl.mk (some (Addr.mk b5 0 none)) 2 2)) x20 V18 →
 ((decide ((x20.t89 : Int) < ((2 : Nat) : Int))) = true →
 ((0 : Int) ≤ x20.t89 ∧ (x20.t89 : Int) < (2 : Nat) ∧ Option.isSome (some (Addr.mk b5 0 none)) = true) ∧
 ∃ x21 : BdV, View.has V18 (Option.map (fun q => Addr.add q (Int.toNat x20.t89 * 6)) (some (Addr.mk b5 0 none))) (x21.val).cells.toList ∧ Option.isSome (Option.map (fun q => Addr.add q (Int.toNat x20.t89 * 6)) (some (Addr.mk b5 0 none))) = true ∧
 ((0 : Int) ≤ 0 ∧ (0 : Int) < (2 : Nat) ∧ Option.isSome (some (Addr.mk b1 0 none)) = true) ∧
 ∃ x22 : BdV, View.has V18 (Option.map (fun q => Addr.add q (Int.toNat 0 * 6)) (some (Addr.mk b1 0 none))) (x22.val).cells.toList ∧ Option.isSome (Option.map (fun q => Addr.add q (Int.toNat 0 * 6)) (some (Addr.mk b1 0 none))) = true ∧
 CallV Tryz.prog 118 #[x22.val, x21.val] V18 fun v V19 => ∃ r10 : Int, v = .int .i64 r10 ∧
 ((decide ((r10 : Int) ≤ 0)) = true →
 ((0 : Int) ≤ 1 ∧ (1 : Int) < (2 : Nat) ∧ Option.isSome (some (Addr.mk b1 0 none)) = true) ∧
 ∃ x23 : BdV, View.has V19 (Option.map (fun q => Addr.add q (Int.toNat 1 * 6)) (some (Addr.mk b1 0 none))) (x23.val).cells.toList ∧ Option.isSome (Option.map (fun q => Addr.add q (Int.toNat 1 * 6)) (some (Addr.mk b1 0 none))) = true ∧
 CallV Tryz.prog 118 #[x21.val, x23.val] V19 fun v V20 => ∃ r11 : Int, v = .int .i64 r11 ∧
 ((decide ((r11 : Int) ≤ 0)) = true →
 ((0 : Int) ≤ x2.t8 ∧ (x2.t8 : Int) < (2 : Nat) ∧ Option.isSome (some (Addr.mk b2 0 none)) = true) ∧
 ∃ x24 : BdV, View.has V20 (Option.map (fun q => Addr.add q (Int.toNat x2.t8 * 6)) (some (Addr.mk b2 0 none))) (x24.val).cells.toList ∧ Option.isSome (Option.map (fun q => Addr.add q (Int.toNat x2.t8 * 6)) (some (Addr.mk b2 0 none))) = true ∧
 CallV Tryz.prog 188 #[x21.val, x24.val] V20 fun v V21 => ∃ r12 : BdV, v = r12.val ∧
 ∀ (b6 : Nat) (V22 : View), View.le V21 V22 → View.Fin V22 → V22 b6 = some #[.int .i64 r12.inf, .bool r12.x.re.neg, r12.x.re.mag.v, .bool r12.x.im.neg, r12.x.im.mag.v, r12.x.under.v] →
 ∃ (l7 : List Value) (l8 : List Value), LstOk 6 x20.t5l x20.t5c x20.o5 l7 ∧ View.has V22 (some (Addr.mk b6 0 none)) l8 ∧ List.length l8 = 1 * 6 ∧ (∀ v ∈ l8, Value.oneCell' v = true) ∧ x20.t5l + 1 ≤ maxLen ∧ (x20.t5l + 1) * 96 ≤ 140737488355328 ∧
 ∀ (c3 : Nat) (l9 : List Value), LstOk 6 (x20.t5l + 1) c3 l9 (l7 ++ l8) →
 B3 (C_ref2_ratios_3.mk (Sl.mk (some (Addr.mk b1 0 none)) 2 2) (Sl.mk (some (Addr.mk b2 0 none)) 2 2) x2.t8 (Sl.mk (some (Addr.mk b5 0 none)) 2 2)) (L_ref2_ratios_3.mk (x20.t5l + 1) c3 (i64.wrap (x20.t89 + 1)) l9) V22 x20 V18) ∧
 ((decide ((r11 : Int) ≤ 0)) = false →
 B3 (C_ref2_ratios_3.mk (Sl.mk (some (Addr.mk b1 0 none)) 2 2) (Sl.mk (some (Addr.mk b2 0 none)) 2 2) x2.t8 (Sl.mk (some (Addr.mk b5 0 none)) 2 2)) (L_ref2_ratios_3.mk x20.t5l x20.t5c (i64.wrap (x20.t89 + 1)) x20.o5) V20 x20 V18)) ∧
 ((decide ((r10 : Int) ≤ 0)) = false →
 B3 (C_ref2_ratios_3.mk (Sl.mk (some (Addr.mk b1 0 none)) 2 2) (Sl.mk (some (Addr.mk b2 0 none)) 2 2) x2.t8 (Sl.mk (some (Addr.mk b5 0 none)) 2 2)) (L_ref2_ratios_3.mk x20.t5l x20.t5c (i64.wrap (x20.t89 + 1)) x20.o5) V19 x20 V18)) ∧
 ((decide ((x20.t89 : Int) < ((2 : Nat) : Int))) = false →
 B0 (C_ref2_ratios_0.mk (Sl.mk (some (Addr.mk b1 0 none)) 2 2) (Sl.mk (some (Addr.mk b2 0 none)) 2 2)) (L_ref2_ratios_0.mk x20.t5l x20.t5c (i64.wrap (x2.t8 + 1)) x20.o5) V18 x2 V7))))))) ∧
 ((decide ((x2.t8 : Int) < 2)) = false →
 ∀ (b7 : Nat) (V23 : View), View.le V7 V23 → (x2.o5 ≠ [] → V23 b7 = some (List.toArray x2.o5)) →
 R ((Sl.mk (lstA b7 x2.t5c) x2.t5l x2.t5c).v) V23))

theorem ref2_ratios_v0 (p0 : SpV) (p1 : SpV) (V : View) (R : Value → View → Prop) (I0 : C_ref2_ratios_0 → L_ref2_ratios_0 → View → Prop) (J0 : C_ref2_ratios_0 → L_ref2_ratios_0 → View → Nat) (I1 : C_ref2_ratios_1 → L_ref2_ratios_1 → View → Prop) (J1 : C_ref2_ratios_1 → L_ref2_ratios_1 → View → Nat) (I2 : C_ref2_ratios_2 → L_ref2_ratios_2 → View → Prop) (I3 : C_ref2_ratios_3 → L_ref2_ratios_3 → View → Prop) (J3 : C_ref2_ratios_3 → L_ref2_ratios_3 → View → Nat) {X : Prop} (e : ref2_ratios_sk p0 p1 V R I0 I1 I2 I3 I0 (fun c w V x U => I0 c w V ∧ J0 c w V < J0 c x U) I1 (fun c w V x U => I1 c w V ∧ J1 c w V < J1 c x U) I2 I3 (fun c w V x U => I3 c w V ∧ J3 c w V < J3 c x U) = X) (h : X) :
 CallV Tryz.prog 103 #[p0.val, p1.val] V R :=
 calls_of_vc (Shp := Shp) hmixed Tryz.func103 (c := Tryz.f103.body.getD .skip) (args := [p0.val, p1.val]) (by kernel_rfl)
 (.seq (.reg [A 2 3, A 3 3, A 4 2]) (.seq (.reg [A 5 2]) (.seq (.adopt 5 5 145 (.draw [(0, A 12 7), (1, A 2 4), (3, A 15 7), (4, A 2 4), (7, A 19 7), (8, A 3 4), (10, A 22 7), (11, A 3 4), (2, A 14 10), (5, A 17 10), (9, A 21 10), (12, A 24 10), (6, A 18 11), (14, A 6 2), (13, A 25 11), (15, A 7 2)] [0, 1, 3, 0, 8, 31, 63, 0, 128, 447, 0, 1024, 4031, 8127, 8191, 32767])) (.seq (.seq (.reg [A 8 2]) (.block (.loop C_ref2_ratios_0 L_ref2_ratios_0 (fun σ => C_ref2_ratios_0.mk (Sl.mk (gSlA (gTm σ 6)) (gSlL (gTm σ 6)) (gSlC (gTm σ 6))) (Sl.mk (gSlA (gTm σ 7)) (gSlL (gTm σ 7)) (gSlC (gTm σ 7)))) (fun c x => { tm := spT 118 0 [(3, .own 3 0), (5, .lst 5 x.t5l x.t5c), (6, .val (c.t6.v)), (7, .val (c.t7.v)), (8, .val (.int .i64 x.t8))], own := spO 118 0 [(3, ⟨34, .fixed [.val (.float .f64 p1.lo), .val (.float .f64 p1.hi)]⟩), (5, ⟨145, .list x.o5⟩)] }) I0 J0 (.seq (.seq (.reg [A 26 2, A 27 0]) (.cond .leaf .leaf)) (.seq (.block (.seq (.seq (.reg [A 9 2]) (.block (.loop C_ref2_ratios_1 L_ref2_ratios_1 (fun σ => C_ref2_ratios_1.mk (Sl.mk (gSlA (gTm σ 6)) (gSlL (gTm σ 6)) (gSlC (gTm σ 6))) (Sl.mk (gSlA (gTm σ 7)) (gSlL (gTm σ 7)) (gSlC (gTm σ 7))) (gInt (gTm σ 8))) (fun c x => { tm := spT 118 0 [(3, .own 3 0), (5, .lst 5 x.t5l x.t5c), (6, .val (c.t6.v)), (7, .val (c.t7.v)), (8, .val (.int .i64 c.t8)), (9, .val (.int .i64 x.t9))], own := spO 118 0 [(3, ⟨34, .fixed [.val (.float .f64 p1.lo), .val (.float .f64 p1.hi)]⟩), (5, ⟨145, .list x.o5⟩)] }) I1 J1 (.seq (.seq (.reg [A 30 2, A 31 0]) (.cond .leaf .leaf)) (.seq (.block (.draw [(0, A 34 2), (1, A 35 2), (2, A 36 2), (3, A 37 7), (4, A 38 5), (5, A 39 2), (6, A 40 2), (7, A 41 7), (8, A 42 5), (9, A 43 10), (10, A 44 11), (11, A 5 13), (12, A 5 2)] [0, 0, 0, 6, 14, 0, 0, 96, 224, 510, 1022, 2047, 4095])) (.reg [A 32 2, A 33 0, A 9 2])))))) (.cut C_ref2_ratios_2 L_ref2_ratios_2 (fun σ => C_ref2_ratios_2.mk (Sl.mk (gSlA (gTm σ 6)) (gSlL (gTm σ 6)) (gSlC (gTm σ 6))) (Sl.mk (gSlA (gTm σ 7)) (gSlL (gTm σ 7)) (gSlC (gTm σ 7))) (gInt (gTm σ 8))) (fun c x => { tm := spT 118 0 [(3, .own 3 0), (5, .lst 5 x.t5l x.t5c), (6, .val (c.t6.v)), (7, .val (c.t7.v)), (8, .val (.int .i64 c.t8))], own := spO 118 0 [(3, ⟨34, .fixed [.val (.float .f64 p1.lo), .val (.float .f64 p1.hi)]⟩), (5, ⟨145, .list x.o5⟩)] }) I2 (.seq (.reg [A 46 2, A 47 2, A 48 7, A 49 7, A 50 5, A 51 0, ⟨52, 2, true⟩, A 53 7, A 3 4, A 55 0, A 56 20, ⟨57, 2, true⟩, A 58 7, A 3 4, A 60 0, A 61 20]) (.cond (.draw [(0, A 62 2), (1, A 63 2), (2, A 64 2), (3, A 65 7), (4, A 66 5), (5, A 67 10), (6, A 68 10), (7, A 69 10), (8, A 70 11), (9, A 5 13), (10, A 5 2)] [0, 0, 0, 6, 14, 0, 32, 126, 254, 511, 1023]) .leaf)) (.seq (.seq (.reg [A 72 2, A 73 2, A 74 7, A 75 7, A 76 5, A 77 0]) (.cond .leaf .leaf)) (.seq (.draw [(0, A 78 2), (1, A 79 2), (2, A 80 7), (3, A 81 5), (4, A 82 2), (5, A 83 2), (6, A 84 7), (7, A 85 5), (11, A 89 2), (8, A 86 10), (9, A 87 11), (10, A 88 0)] [0, 0, 3, 7, 0, 0, 48, 112, 240, 511, 1023, 0]) (.block (.loop C_ref2_ratios_3 L_ref2_ratios_3 (fun σ => C_ref2_ratios_3.mk (Sl.mk (gSlA (gTm σ 6)) (gSlL (gTm σ 6)) (gSlC (gTm σ 6))) (Sl.mk (gSlA (gTm σ 7)) (gSlL (gTm σ 7)) (gSlC (gTm σ 7))) (gInt (gTm σ 8)) (Sl.mk (gSlA (gTm σ 87)) (gSlL (gTm σ 87)) (gSlC (gTm σ 87)))) (fun c x => { tm := spT 118 0 [(3, .own 3 0), (5, .lst 5 x.t5l x.t5c), (6, .val (c.t6.v)), (7, .val (c.t7.v)), (8, .val (.int .i64 c.t8)), (87, .val (c.t87.v)), (88, .val (.int .i64 ((2 : Nat) : Int))), (89, .val (.int .i64 x.t89))], own := spO 118 0 [(3, ⟨34, .fixed [.val (.float .f64 p1.lo), .val (.float .f64 p1.hi)]⟩), (5, ⟨145, .list x.o5⟩)] }) I3 J3 (.seq (.reg [A 90 0]) (.seq (.cond .leaf .leaf) (.seq (.block (.seq (.reg [A 91 7, A 92 5, A 11 3, A 11 6]) (.seq (.draw [(0, A 93 2), (1, A 94 7), (2, A 95 5), (3, A 11 4), (4, A 97 10), (5, A 98 0), (6, ⟨99, 2, true⟩), (7, A 11 4), (8, A 101 2), (9, A 102 7), (10, A 103 5), (11, A 104 10), (12, A 105 0), (13, A 106 20)] [0, 1, 3, 0, 15, 31, 63, 127, 127, 383, 895, 2047, 4095, 8191]) (.cond (.draw [(0, A 107 2), (1, A 11 4), (2, A 109 2), (3, A 110 2), (4, A 111 7), (5, A 112 5), (6, A 113 10), (7, A 114 11), (8, A 5 13), (9, A 5 2)] [0, 0, 0, 0, 12, 28, 62, 126, 255, 511]) .leaf)))) (.reg [A 116 0, A 89 2]))))))))))) (.reg [A 28 2, A 29 0, A 8 2])))))) (.seq (.reg [A 117 2, A 4 2]) (.pub 5 .leaf))))))
 (Eq.mpr (by kernel_rfl) (show ref2_ratios_sk p0 p1 V R I0 I1 I2 I3 (fun c w V => ∃ x, ref2_ratios_f0 p1 c w x ∧ I0 c x V) (fun c w V y U => ∃ x, ref2_ratios_f0 p1 c w x ∧ I0 c x V ∧ J0 c x V < J0 c y U) (fun c w V => ∃ x, ref2_ratios_f1 p1 c w x ∧ I1 c x V) (fun c w V y U => ∃ x, ref2_ratios_f1 p1 c w x ∧ I1 c x V ∧ J1 c x V < J1 c y U) (fun c w V => ∃ x, ref2_ratios_f2 p1 c w x ∧ I2 c x V) (fun c w V => ∃ x, ref2_ratios_f3 p1 c w x ∧ I3 c x V) (fun c w V y U => ∃ x, ref2_ratios_f3 p1 c w x ∧ I3 c x V ∧ J3 c x V < J3 c y U) from by
 have h := Eq.mpr e h; unfold ref2_ratios_sk at h ⊢; have Ee0 := fun c w V (h : I0 c w V) => (⟨w, ⟨⟨rfl, rfl, rfl, rfl, rfl, trivial⟩, ⟨rfl, rfl, trivial⟩⟩, h⟩ : ∃ x, ref2_ratios_f0 p1 c w x ∧ I0 c x V); have Bb0 := fun c w V y U (h : I0 c w V ∧ J0 c w V < J0 c y U) => (⟨w, ⟨⟨rfl, rfl, rfl, rfl, rfl, trivial⟩, ⟨rfl, rfl, trivial⟩⟩, h⟩ : ∃ x, ref2_ratios_f0 p1 c w x ∧ I0 c x V ∧ J0 c x V < J0 c y U); have Ee1 := fun c w V (h : I1 c w V) => (⟨w, ⟨⟨rfl, rfl, rfl, rfl, rfl, rfl, trivial⟩, ⟨rfl, rfl, trivial⟩⟩, h⟩ : ∃ x, ref2_ratios_f1 p1 c w x ∧ I1 c x V); have Bb1 := fun c w V y U (h : I1 c w V ∧ J1 c w V < J1 c y U) => (⟨w, ⟨⟨rfl, rfl, rfl, rfl, rfl, rfl, trivial⟩, ⟨rfl, rfl, trivial⟩⟩, h⟩ : ∃ x, ref2_ratios_f1 p1 c w x ∧ I1 c x V ∧ J1 c x V < J1 c y U); have Ee2 := fun c w V (h : I2 c w V) => (⟨w, ⟨⟨rfl, rfl, rfl, rfl, rfl, trivial⟩, ⟨rfl, rfl, trivial⟩⟩, h⟩ : ∃ x, ref2_ratios_f2 p1 c w x ∧ I2 c x V); have Ee3 := fun c w V (h : I3 c w V) => (⟨w, ⟨⟨rfl, rfl, rfl, rfl, rfl, rfl, rfl, rfl, trivial⟩, ⟨rfl, rfl, trivial⟩⟩, h⟩ : ∃ x, ref2_ratios_f3 p1 c w x ∧ I3 c x V); have Bb3 := fun c w V y U (h : I3 c w V ∧ J3 c w V < J3 c y U) => (⟨w, ⟨⟨rfl, rfl, rfl, rfl, rfl, rfl, rfl, rfl, trivial⟩, ⟨rfl, rfl, trivial⟩⟩, h⟩ : ∃ x, ref2_ratios_f3 p1 c w x ∧ I3 c x V ∧ J3 c x V < J3 c y U); exact (CallV.mono h (fun _ _ _ ⟨r1, h116, h115⟩ => ⟨r1, h116, (CallV.mono h115 (fun _ _ _ ⟨r2, h114, h113⟩ => ⟨r2, h114, (CallV.mono h113 (fun _ _ _ ⟨r3, h112, h111⟩ => ⟨r3, h112, (CallV.mono h111 (fun _ _ _ ⟨r4, h110, h109⟩ => ⟨r4, h110, (fun b1 V5 h106 h107 h108 => (fun b2 V6 h103 h104 h105 => ⟨(Ee0 _ _ _ ((h109 b1 V5 h106 h107 h108) b2 V6 h103 h104 h105).1), fun x2 V7 h101 h102 => ⟨fun h100 => ⟨(Ee1 _ _ _ ((((h109 b1 V5 h106 h107 h108) b2 V6 h103 h104 h105).2 x2 V7 h101 h102).1 h100).1), fun x4 V8 h96 h97 => ⟨fun h95 => ⟨((((((h109 b1 V5 h106 h107 h108) b2 V6 h103 h104 h105).2 x2 V7 h101 h102).1 h100).2 x4 V8 h96 h97).1 h95).1, (match ((((((h109 b1 V5 h106 h107 h108) b2 V6 h103 h104 h105).2 x2 V7 h101 h102).1 h100).2 x4 V8 h96 h97).1 h95).2 with | ⟨x5, h18, h19, h17⟩ => ⟨x5, h18, h19, ⟨h17.1, (match h17.2 with | ⟨x6, h15, h16, h14⟩ => ⟨x6, h15, h16, (CallV.mono h14 (fun _ _ _ ⟨r5, h13, h12⟩ => ⟨r5, h13, (fun b3 V10 h9 h10 h11 => (match (h12 b3 V10 h9 h10 h11) with | ⟨l1, l2, h3, h4, h5, h6, h7, h8, h2⟩ => ⟨l1, l2, h3, h4, h5, h6, h7, h8, (fun c1 l3 h1 => (Bb1 _ _ _ _ _ (h2 c1 l3 h1)))⟩))⟩))⟩)⟩⟩)⟩, fun h95 => ⟨⟨((((((h109 b1 V5 h106 h107 h108) b2 V6 h103 h104 h105).2 x2 V7 h101 h102).1 h100).2 x4 V8 h96 h97).2 h95).1.1, ⟨((((((h109 b1 V5 h106 h107 h108) b2 V6 h103 h104 h105).2 x2 V7 h101 h102).1 h100).2 x4 V8 h96 h97).2 h95).1.2.1, (match ((((((h109 b1 V5 h106 h107 h108) b2 V6 h103 h104 h105).2 x2 V7 h101 h102).1 h100).2 x4 V8 h96 h97).2 h95).1.2.2 with | ⟨x9, h44, h43⟩ => ⟨x9, h44, ⟨fun h42 => ⟨fun h41 => ⟨fun h40 => ⟨(((h43.1 h42).1 h41).1 h40).1, (match (((h43.1 h42).1 h41).1 h40).2 with | ⟨x10, h38, h39, h37⟩ => ⟨x10, h38, h39, (CallV.mono h37 (fun _ _ _ ⟨r6, h36, h35⟩ => ⟨r6, h36, (CallV.mono h35 (fun _ _ _ ⟨r7, h34, h33⟩ => ⟨r7, h34, (CallV.mono h33 (fun _ _ _ ⟨r8, h32, h31⟩ => ⟨r8, h32, (fun b4 V15 h28 h29 h30 => (match (h31 b4 V15 h28 h29 h30) with | ⟨l4, l5, h22, h23, h24, h25, h26, h27, h21⟩ => ⟨l4, l5, h22, h23, h24, h25, h26, h27, (fun c2 l6 h20 => (Ee2 _ _ _ (h21 c2 l6 h20)))⟩))⟩))⟩))⟩))⟩)⟩, fun h40 => (Ee2 _ _ _ (((h43.1 h42).1 h41).2 h40))⟩, fun h41 => (Ee2 _ _ _ ((h43.1 h42).2 h41))⟩, fun h42 => (Ee2 _ _ _ (h43.2 h42))⟩⟩)⟩⟩, fun x8 V11 h93 h94 => ⟨(((((((h109 b1 V5 h106 h107 h108) b2 V6 h103 h104 h105).2 x2 V7 h101 h102).1 h100).2 x4 V8 h96 h97).2 h95).2 x8 V11 h93 h94).1, ⟨(((((((h109 b1 V5 h106 h107 h108) b2 V6 h103 h104 h105).2 x2 V7 h101 h102).1 h100).2 x4 V8 h96 h97).2 h95).2 x8 V11 h93 h94).2.1, (match (((((((h109 b1 V5 h106 h107 h108) b2 V6 h103 h104 h105).2 x2 V7 h101 h102).1 h100).2 x4 V8 h96 h97).2 h95).2 x8 V11 h93 h94).2.2 with | ⟨x15, h92, h91⟩ => ⟨x15, h92, ⟨fun h90 => (Bb0 _ _ _ _ _ (h91.1 h90)), fun h90 => ⟨(h91.2 h90).1, (match (h91.2 h90).2 with | ⟨x17, h88, h89, h87⟩ => ⟨x17, h88, h89, ⟨h87.1, (match h87.2 with | ⟨x18, h85, h86, h84⟩ => ⟨x18, h85, h86, (CallV.mono h84 (fun _ _ _ ⟨r9, h83, h82⟩ => ⟨r9, h83, (fun b5 V17 h79 h80 h81 => ⟨(Ee3 _ _ _ (h82 b5 V17 h79 h80 h81).1), fun x20 V18 h77 h78 => ⟨fun h76 => ⟨(((h82 b5 V17 h79 h80 h81).2 x20 V18 h77 h78).1 h76).1, (match (((h82 b5 V17 h79 h80 h81).2 x20 V18 h77 h78).1 h76).2 with | ⟨x21, h74, h75, h73⟩ => ⟨x21, h74, h75, ⟨h73.1, (match h73.2 with | ⟨x22, h71, h72, h70⟩ => ⟨x22, h71, h72, (CallV.mono h70 (fun _ _ _ ⟨r10, h69, h68⟩ => ⟨r10, h69, ⟨fun h67 => ⟨(h68.1 h67).1, (match (h68.1 h67).2 with | ⟨x23, h65, h66, h64⟩ => ⟨x23, h65, h66, (CallV.mono h64 (fun _ _ _ ⟨r11, h63, h62⟩ => ⟨r11, h63, ⟨fun h61 => ⟨(h62.1 h61).1, (match (h62.1 h61).2 with | ⟨x24, h59, h60, h58⟩ => ⟨x24, h59, h60, (CallV.mono h58 (fun _ _ _ ⟨r12, h57, h56⟩ => ⟨r12, h57, (fun b6 V22 h53 h54 h55 => (match (h56 b6 V22 h53 h54 h55) with | ⟨l7, l8, h47, h48, h49, h50, h51, h52, h46⟩ => ⟨l7, l8, h47, h48, h49, h50, h51, h52, (fun c3 l9 h45 => (Bb3 _ _ _ _ _ (h46 c3 l9 h45)))⟩))⟩))⟩)⟩, fun h61 => (Bb3 _ _ _ _ _ (h62.2 h61))⟩⟩))⟩)⟩, fun h67 => (Bb3 _ _ _ _ _ (h68.2 h67))⟩⟩))⟩)⟩⟩)⟩, fun h76 => (Bb0 _ _ _ _ _ (((h82 b5 V17 h79 h80 h81).2 x20 V18 h77 h78).2 h76))⟩⟩)⟩))⟩)⟩⟩)⟩⟩⟩)⟩⟩⟩⟩⟩, fun h100 => (fun b7 V23 h98 h99 => (((((h109 b1 V5 h106 h107 h108) b2 V6 h103 h104 h105).2 x2 V7 h101 h102).2 h100) b7 V23 h98 h99))⟩⟩))⟩))⟩))⟩))⟩))))

theorem ref2_ratios_vc : type_of% (fun p0 p1 V R I0 J0 I1 J1 I2 I3 J3 => ref2_ratios_v0 p0 p1 V R I0 J0 I1 J1 I2 I3 J3 (ref2_ratios_sk.eq_1 ..)) := fun p0 p1 V R I0 J0 I1 J1 I2 I3 J3 => ref2_ratios_v0 p0 p1 V R I0 J0 I1 J1 I2 I3 J3 (ref2_ratios_sk.eq_1 ..)

theorem ref2_Box_Inv_vc (p0 : BoxV) (V : View) (R : Value → View → Prop) 
 (h :
 CallV Tryz.prog 31 #[p0.val] V fun v V1 => ∃ r1 : Bool, v = .bool r1 ∧
 ((!r1) = true →
 R (.tuple #[(BoxV.mk (SpV.mk 0 0) (SpV.mk 0 0)).val, .int .i64 3]) V1) ∧
 ((!r1) = false →
 CallV Tryz.prog 103 #[p0.re.val, p0.im.val] V1 fun v V2 => ∃ r2 : Sl, v = r2.v ∧
 CallV Tryz.prog 103 #[p0.im.val, p0.re.val] V2 fun v V3 => ∃ r3 : Sl, v = r3.v ∧
 CallV Tryz.prog 105 #[r2.v] V3 fun v V4 => ∃ r4 : BdV, v = r4.val ∧
 CallV Tryz.prog 106 #[r2.v] V4 fun v V5 => ∃ r5 : BdV, v = r5.val ∧
 CallV Tryz.prog 104 #[r4.val, r5.val] V5 fun v V6 => ∃ r6 : SpV, v = r6.val ∧
 CallV Tryz.prog 106 #[r3.v] V6 fun v V7 => ∃ r7 : BdV, v = r7.val ∧
 CallV Tryz.prog 107 #[r7.val] V7 fun v V8 => ∃ r8 : BdV, v = r8.val ∧
 CallV Tryz.prog 105 #[r3.v] V8 fun v V9 => ∃ r9 : BdV, v = r9.val ∧
 CallV Tryz.prog 107 #[r9.val] V9 fun v V10 => ∃ r10 : BdV, v = r10.val ∧
 CallV Tryz.prog 104 #[r8.val, r10.val] V10 fun v V11 => ∃ r11 : SpV, v = r11.val ∧
 R (.tuple #[(BoxV.mk r6 r11).val, .int .i64 0]) V11)) :
 CallV Tryz.prog 27 #[p0.val] V R :=
 calls_of_vc (Shp := Shp) hmixed Tryz.func27 (c := Tryz.f27.body.getD .skip) (args := [p0.val]) (by kernel_rfl)
 (.seq (.reg [A 1 3, A 2 3, A 3 2]) (.seq (.seq (.reg [A 1 4, A 7 10, A 8 20]) (.cond (.seq (.reg [A 9 0, A 2 6, A 3 2]) .leaf) .leaf)) (.seq (.draw [(0, A 10 7), (1, A 1 4), (2, A 12 7), (3, A 1 4), (5, A 15 7), (6, A 1 4), (7, A 17 7), (8, A 1 4), (4, A 14 10), (9, A 19 10), (10, A 4 2), (11, A 5 2)] [0, 1, 0, 4, 15, 0, 32, 0, 128, 511, 1023, 2047]) (.seq (.reg [A 20 2, A 21 10, A 22 2, A 23 10, A 24 10, A 25 2, A 26 10, A 27 10, A 28 2, A 29 10, A 30 10, A 31 10, A 32 0, A 2 6, A 3 2]) .leaf))))
 (Eq.mpr (by kernel_rfl) h)

theorem ref2_Box_Div_vc (p0 : BoxV) (p1 : BoxV) (V : View) (R : Value → View → Prop) 
 (h :
 CallV Tryz.prog 27 #[p1.val] V fun v V1 => ∃ (r1 : BoxV) (r2 : Int), v = .tuple #[r1.val, .int .i64 r2] ∧
 (((r2 : Int) != 0) = true →
 R (.tuple #[(BoxV.mk (SpV.mk 0 0) (SpV.mk 0 0)).val, .int .i64 r2]) V1) ∧
 (((r2 : Int) != 0) = false →
 CallV Tryz.prog 42 #[p0.val, r1.val] V1 fun v V2 => ∃ r3 : BoxV, v = r3.val ∧
 R (.tuple #[r3.val, .int .i64 0]) V2)) :
 CallV Tryz.prog 29 #[p0.val, p1.val] V R :=
 calls_of_vc (Shp := Shp) hmixed Tryz.func29 (c := Tryz.f29.body.getD .skip) (args := [p0.val, p1.val]) (by kernel_rfl)
 (.seq (.reg [A 2 3, A 3 3, A 4 3, A 5 2]) (.seq (.reg [A 3 4, A 10 10, A 8 2, A 11 0, A 12 0, A 6 3, A 6 6, A 7 2]) (.seq (.seq (.reg [A 13 2, A 14 0]) (.cond (.seq (.reg [A 15 0, A 16 2, A 4 6, A 5 2]) .leaf) .leaf)) (.seq (.reg [A 2 4, A 6 4, A 19 10, A 4 6, A 5 2]) .leaf))))
 (Eq.mpr (by kernel_rfl) h)

end Go.Proofs.YtkibfmnkkiakoaaGreat
