/- Part of the proof; it has the parts GMtN. -/
import Derived.Test.YtefkpimcffofaaaGreatGFl2
set_option maxRecDepth 100000
set_option maxHeartbeats 4000000
namespace Go.Proofs.YtefkpimcffofaaaGreat
open Go Go.Vc Go.Proofs
open Go.IntKind (i8 i16 i32 i64 u8 u16 u32 u64)

theorem num_columns_num_Num__1_vc (p0 : Sl) (p1 : Option Addr) (V : View) (R : Value → View → Prop) 
 (h :
 ∃ x1 : Int, View.load V p1 = some (.int .i64 x1) ∧
 R (.bool (((p0.len : Int) : Int) != x1)) V) :
 CallV Tryz.prog 316 #[p0.v, .pointer p1] V R :=
 calls_of_vc (Shp := Shp) hmixed Tryz.func316 (c := Tryz.f316.body.getD .skip) (args := [p0.v, .pointer p1]) (by kernel_rfl)
 (.seq (.reg [A 3 9]) (.seq (.reg [A 4 2, A 5 0, A 6 5, A 7 0, A 3 2]) .leaf))
 (Eq.mpr (by kernel_rfl) h)

structure L_slices_IndexFunc_____num_Num___num_Num___num_columns_num_Num__1_0 where
 t8 : Int
def slices_IndexFunc_____num_Num___num_Num___num_columns_num_Num__1_f0 (p0 : Sl) (p1 : Fn1) (_c : Unit) (w x : L_slices_IndexFunc_____num_Num___num_Num___num_columns_num_Num__1_0) : Prop := (Q1 (.val (p0.v)) ∧ Q1 (.val (.func (.func 316) #[] #[.pointer p1.p0])) ∧ Q1 (.val (.int .i64 (p0.len : Int))) ∧ E2 (.val (.int .i64 w.t8)) (.val (.int .i64 x.t8)) ∧ True) ∧ (True)
def slices_IndexFunc_____num_Num___num_Num___num_columns_num_Num__1_sk (p0 : Sl) (p1 : Fn1) (V : View) (R : Value → View → Prop) (I0 : Unit → L_slices_IndexFunc_____num_Num___num_Num___num_columns_num_Num__1_0 → View → Prop) (E0 : Unit → L_slices_IndexFunc_____num_Num___num_Num___num_columns_num_Num__1_0 → View → Prop) (B0 : Unit → L_slices_IndexFunc_____num_Num___num_Num___num_columns_num_Num__1_0 → View → L_slices_IndexFunc_____num_Num___num_Num___num_columns_num_Num__1_0 → View → Prop) : Prop :=
 E0 () (L_slices_IndexFunc_____num_Num___num_Num___num_columns_num_Num__1_0.mk 0) V ∧
 (∀ (x2 : L_slices_IndexFunc_____num_Num___num_Num___num_columns_num_Num__1_0) (V1 : View), View.le V V1 → I0 () x2 V1 →
 ((decide ((x2.t8 : Int) < (p0.len : Int))) = true →
 ((0 : Int) ≤ x2.t8 ∧ (x2.t8 : Int) < (p0.len : Nat) ∧ Option.isSome p0.a = true) ∧
 ∃ x3 : Sl, View.load V1 (Option.map (fun q => Addr.add q (Int.toNat x2.t8 * 1)) p0.a) = some (x3.v) ∧
 CallV Tryz.prog 316 #[x3.v, .pointer p1.p0] V1 fun v V2 => ∃ r1 : Bool, v = .bool r1 ∧
 (r1 = true →
 R (.int .i64 x2.t8) V2) ∧
 (r1 = false →
 B0 () (L_slices_IndexFunc_____num_Num___num_Num___num_columns_num_Num__1_0.mk (i64.wrap (x2.t8 + 1))) V2 x2 V1)) ∧
 ((decide ((x2.t8 : Int) < (p0.len : Int))) = false →
 R (.int .i64 (-1)) V1))

theorem slices_IndexFunc_____num_Num___num_Num___num_columns_num_Num__1_v0 (p0 : Sl) (p1 : Fn1) (V : View) (R : Value → View → Prop) (I0 : Unit → L_slices_IndexFunc_____num_Num___num_Num___num_columns_num_Num__1_0 → View → Prop) (J0 : Unit → L_slices_IndexFunc_____num_Num___num_Num___num_columns_num_Num__1_0 → View → Nat) {X : Prop} (e : slices_IndexFunc_____num_Num___num_Num___num_columns_num_Num__1_sk p0 p1 V R I0 I0 (fun c w V x U => I0 c w V ∧ J0 c w V < J0 c x U) = X) (h : X) :
 CallV Tryz.prog 237 #[p0.v, p1.val 316] V R :=
 calls_of_vc (Shp := Shp) hmixed Tryz.func237 (c := Tryz.f237.body.getD .skip) (args := [p0.v, p1.val 316]) (by kernel_rfl)
 (.seq (.reg [A 4 2]) (.seq (.seq (.reg [A 6 2, A 7 0, A 8 2]) (.block (.loop Unit L_slices_IndexFunc_____num_Num___num_Num___num_columns_num_Num__1_0 (fun _ => ()) (fun c x => { tm := spT 19 0 [(0, .val (p0.v)), (1, .val (.func (.func 316) #[] #[.pointer p1.p0])), (7, .val (.int .i64 (p0.len : Int))), (8, .val (.int .i64 x.t8))], own := spO 19 0 [] }) I0 J0 (.seq (.reg [A 9 0]) (.seq (.cond .leaf .leaf) (.seq (.block (.seq (.reg [A 10 2, A 5 2]) (.seq (.reg [A 11 2, A 12 2, A 13 2, A 14 7, A 15 5, A 16 10]) (.cond (.seq (.reg [A 17 2, A 4 2]) .leaf) .leaf)))) (.reg [A 18 0, A 8 2]))))))) (.seq (.reg [A 4 2]) .leaf)))
 (Eq.mpr (by kernel_rfl) (show slices_IndexFunc_____num_Num___num_Num___num_columns_num_Num__1_sk p0 p1 V R I0 (fun c w V => ∃ x, slices_IndexFunc_____num_Num___num_Num___num_columns_num_Num__1_f0 p0 p1 c w x ∧ I0 c x V) (fun c w V y U => ∃ x, slices_IndexFunc_____num_Num___num_Num___num_columns_num_Num__1_f0 p0 p1 c w x ∧ I0 c x V ∧ J0 c x V < J0 c y U) from by
 have h := Eq.mpr e h; unfold slices_IndexFunc_____num_Num___num_Num___num_columns_num_Num__1_sk at h ⊢; have Ee0 := fun c w V (h : I0 c w V) => (⟨w, ⟨⟨rfl, rfl, rfl, rfl, trivial⟩, trivial⟩, h⟩ : ∃ x, slices_IndexFunc_____num_Num___num_Num___num_columns_num_Num__1_f0 p0 p1 c w x ∧ I0 c x V); have Bb0 := fun c w V y U (h : I0 c w V ∧ J0 c w V < J0 c y U) => (⟨w, ⟨⟨rfl, rfl, rfl, rfl, trivial⟩, trivial⟩, h⟩ : ∃ x, slices_IndexFunc_____num_Num___num_Num___num_columns_num_Num__1_f0 p0 p1 c w x ∧ I0 c x V ∧ J0 c x V < J0 c y U); exact ⟨(Ee0 _ _ _ h.1), fun x2 V1 h7 h8 => ⟨fun h6 => ⟨((h.2 x2 V1 h7 h8).1 h6).1, (match ((h.2 x2 V1 h7 h8).1 h6).2 with | ⟨x3, h5, h4⟩ => ⟨x3, h5, (CallV.mono h4 (fun _ _ _ ⟨r1, h3, h2⟩ => ⟨r1, h3, ⟨fun h1 => (h2.1 h1), fun h1 => (Bb0 _ _ _ _ _ (h2.2 h1))⟩⟩))⟩)⟩, fun h6 => ((h.2 x2 V1 h7 h8).2 h6)⟩⟩))

theorem slices_IndexFunc_____num_Num___num_Num___num_columns_num_Num__1_vc : type_of% (fun p0 p1 V R I0 J0 => slices_IndexFunc_____num_Num___num_Num___num_columns_num_Num__1_v0 p0 p1 V R I0 J0 (slices_IndexFunc_____num_Num___num_Num___num_columns_num_Num__1_sk.eq_1 ..)) := fun p0 p1 V R I0 J0 => slices_IndexFunc_____num_Num___num_Num___num_columns_num_Num__1_v0 p0 p1 V R I0 J0 (slices_IndexFunc_____num_Num___num_Num___num_columns_num_Num__1_sk.eq_1 ..)

theorem slices_ContainsFunc_____num_Num___num_Num___num_columns_num_Num__1_vc (p0 : Sl) (p1 : Fn1) (V : View) (R : Value → View → Prop) 
 (h :
 CallV Tryz.prog 237 #[p0.v, p1.val 316] V fun v V1 => ∃ r1 : Int, v = .int .i64 r1 ∧
 R (.bool (decide ((r1 : Int) ≥ 0))) V1) :
 CallV Tryz.prog 124 #[p0.v, p1.val 316] V R :=
 calls_of_vc (Shp := Shp) hmixed Tryz.func124 (c := Tryz.f124.body.getD .skip) (args := [p0.v, p1.val 316]) (by kernel_rfl)
 (.seq (.reg [A 4 9]) (.seq (.reg [A 5 2, A 6 2, A 7 10, A 8 0, A 4 2]) .leaf))
 (Eq.mpr (by kernel_rfl) h)

theorem num_columns_num_Num__vc (p0 : Sl) (V : View) (R : Value → View → Prop) 
 (h :
 ((((p0.len : Int) : Int) == 0) = true →
 R (.tuple #[.int .i64 0, .bool true]) V) ∧
 ((((p0.len : Int) : Int) == 0) = false →
 ((0 : Int) ≤ 0 ∧ (0 : Int) < (p0.len : Nat) ∧ Option.isSome p0.a = true) ∧
 ∃ x1 : Sl, View.load V (Option.map (fun q => Addr.add q (Int.toNat 0 * 1)) p0.a) = some (x1.v) ∧
 ∀ (b1 : Nat) (V1 : View), View.le V V1 → V1 b1 = some (List.toArray ([.int .i64 (x1.len : Int)])) →
 ∃ x2 : Int, View.load V1 (some (Addr.mk b1 0 none)) = some (.int .i64 x2) ∧
 ((decide (((p0.len : Int) : Int) ≤ 32)) = true →
 ∃ x3 : Int, View.load V1 (some (Addr.mk b1 0 none)) = some (.int .i64 x3) ∧
 ((decide ((x3 : Int) ≤ 32)) = true →
 CallV Tryz.prog 124 #[p0.v, .func (.func 316) #[] #[.pointer (some (Addr.mk b1 0 none))]] V1 fun v V2 => ∃ r1 : Bool, v = .bool r1 ∧
 R (.tuple #[.int .i64 x2, .bool (!r1)]) V2) ∧
 ((decide ((x3 : Int) ≤ 32)) = false →
 R (.tuple #[.int .i64 x2, .bool false]) V1)) ∧
 ((decide (((p0.len : Int) : Int) ≤ 32)) = false →
 R (.tuple #[.int .i64 x2, .bool false]) V1))) :
 CallV Tryz.prog 236 #[p0.v] V R :=
 calls_of_vc (Shp := Shp) hmixed Tryz.func236 (c := Tryz.f236.body.getD .skip) (args := [p0.v]) (by kernel_rfl)
 (.seq (.reg [A 2 2, A 3 9]) (.seq (.seq (.reg [A 5 2, A 6 0, A 7 0]) (.cond (.seq (.reg [A 2 2, A 3 9]) .leaf) .leaf)) (.seq (.reg [A 8 2, A 9 7, A 10 5, A 11 0, A 4 3, A 4 6]) (.seq (.pub 4 (.draw [(0, A 12 5), (1, A 13 2), (2, A 14 0), (3, A 15 0), (4, ⟨16, 2, true⟩), (5, A 17 5), (6, A 18 0), (7, A 19 20), (8, ⟨20, 2, true⟩), (9, A 21 2), (10, A 22 0), (11, A 23 10), (12, A 24 20), (13, A 25 20), (14, A 2 2), (15, A 3 2)] [0, 0, 2, 6, 14, 30, 62, 126, 254, 510, 510, 2046, 4094, 8190, 4095, 32767])) .leaf))))
 (Eq.mpr (by kernel_rfl) h)

theorem num_isSquare_num_Num__vc (p0 : Sl) (V : View) (R : Value → View → Prop) 
 (h :
 CallV Tryz.prog 236 #[p0.v] V fun v V1 => ∃ (r1 : Int) (r2 : Bool), v = .tuple #[.int .i64 r1, .bool r2] ∧
 (r2 = true →
 R (.bool ((r1 : Int) == (p0.len : Int))) V1) ∧
 (r2 = false →
 R (.bool false) V1)) :
 CallV Tryz.prog 121 #[p0.v] V R :=
 calls_of_vc (Shp := Shp) hmixed Tryz.func121 (c := Tryz.f121.body.getD .skip) (args := [p0.v]) (by kernel_rfl)
 (.seq (.reg [A 2 9]) (.seq (.reg [A 6 2, A 7 10, A 5 2, A 8 0, A 9 0, A 3 2, A 4 2]) (.seq (.reg [A 10 2, ⟨11, 2, true⟩, A 12 2, A 13 2, A 14 0, A 15 0, A 16 20, A 2 2]) .leaf)))
 (Eq.mpr (by kernel_rfl) h)

theorem slices_Clone___num_Num_num_Num__vc (pm : View) (p0 : Sl) (V : View) (R : Value → View → View → Prop) 
 (h :
 True ∧
 ((Option.isNone p0.a) = true →
 R ((Sl.mk none 0 0).v) pm V) ∧
 ((Option.isNone p0.a) = false →
 ∀ (b1 : Nat) (V1 : View), View.le V V1 → View.Fin V1 → V1 b1 = some #[] →
 ∃ (l1 : List Value) (l2 : List Value), ((0 : Nat) ≤ 0 ∧ ((some (Addr.mk b1 0 none)) = none → (0 : Nat) = 0)) ∧ has2 pm V1 (some (Addr.mk b1 0 none)) l1 ∧ List.length l1 = 0 * 5 ∧ has2 pm V1 p0.a l2 ∧ List.length l2 = p0.len * 5 ∧ (∀ v ∈ l2, Value.oneCell' v = true) ∧ 0 + p0.len ≤ maxLen ∧ (0 + p0.len) * 88 ≤ 140737488355328 ∧ ((p0.len : Nat) ≠ 0 → 0 + p0.len ≤ 0 → ∃ (b2 c2 : Nat) (l3 : List Value), (some (Addr.mk b1 0 none)) = some (Addr.mk b2 c2 none) ∧ pm b2 = some (List.toArray l3) ∧ c2 + (0 + p0.len) * 5 ≤ List.length l3) ∧
 ∀ (a1 : Option Addr) (c1 : Nat) (m1 : View), AppR pm V1 (some (Addr.mk b1 0 none)) 0 0 p0.len 5 l1 l2 a1 c1 m1 →
 R ((Sl.mk a1 (0 + p0.len) c1).v) m1 V1)) :
 CallR Tryz.prog 131 #[p0.v] pm V R :=
 calls_of_vcR (Shp := Shp) (r := 0) (m := pm) hmixed Tryz.func131 (c := Tryz.f131.body.getD .skip) (args := [p0.v]) (by kernel_rfl) (by kernel_rfl)
 (.seq (.reg [A 2 2]) (.seq (.seq (.reg [A 3 2, A 4 12]) (.cond (.seq (.reg [A 2 2]) .leaf) .leaf)) (.seq (.reg [A 5 11, A 6 2, A 0 25, A 2 2]) .leaf)))
 (Eq.mpr (by kernel_rfl) h)

structure L_num_copied_num_Num__0 where
 t15 : Int
 o0 : View
 o12 : List Value
structure L_num_copied_num_Num__1 where
 t27 : Int
 o0 : View
 o12 : List Value
structure C_num_copied_num_Num__1 where
 t6 : Int
 t15 : Int
def num_copied_num_Num__f0 (p0 : Sl) (p1 : Sl) (_c : Unit) (w x : L_num_copied_num_Num__0) : Prop := (Q1 (.val (p1.v)) ∧ Q1 (.osl 12 0 (Int.toNat (p0.len : Int)) (Int.toNat (p0.len : Int))) ∧ Q1 (.val (p0.v)) ∧ Q1 (.val (.int .i64 (p0.len : Int))) ∧ E2 (.val (.int .i64 w.t15)) (.val (.int .i64 x.t15)) ∧ True) ∧ (O2 ⟨1, .reg w.o0⟩ ⟨1, .reg x.o0⟩ ∧ O2 ⟨45, .dyn w.o12⟩ ⟨45, .dyn x.o12⟩ ∧ True)
def num_copied_num_Num__f1 (p0 : Sl) (p1 : Sl) (c : C_num_copied_num_Num__1) (w x : L_num_copied_num_Num__1) : Prop := (Q1 (.val (p1.v)) ∧ Q1 (.osl 12 0 (Int.toNat (p0.len : Int)) (Int.toNat (p0.len : Int))) ∧ Q1 (.val (.int .i64 c.t6)) ∧ Q1 (.val (p0.v)) ∧ Q1 (.val (.int .i64 (p0.len : Int))) ∧ Q1 (.val (.int .i64 c.t15)) ∧ Q1 (.val (p1.v)) ∧ Q1 (.val (.int .i64 (p1.len : Int))) ∧ E2 (.val (.int .i64 w.t27)) (.val (.int .i64 x.t27)) ∧ True) ∧ (O2 ⟨1, .reg w.o0⟩ ⟨1, .reg x.o0⟩ ∧ O2 ⟨45, .dyn w.o12⟩ ⟨45, .dyn x.o12⟩ ∧ True)
def num_copied_num_Num__sk (pm : View) (p0 : Sl) (p1 : Sl) (V : View) (R : Value → View → View → Prop) (I0 : Unit → L_num_copied_num_Num__0 → View → Prop) (I1 : C_num_copied_num_Num__1 → L_num_copied_num_Num__1 → View → Prop) (E0 : Unit → L_num_copied_num_Num__0 → View → Prop) (B0 : Unit → L_num_copied_num_Num__0 → View → L_num_copied_num_Num__0 → View → Prop) (E1 : C_num_copied_num_Num__1 → L_num_copied_num_Num__1 → View → Prop) (B1 : C_num_copied_num_Num__1 → L_num_copied_num_Num__1 → View → L_num_copied_num_Num__1 → View → Prop) : Prop :=
 ((0 : Int) ≤ (p0.len : Int) ∧ ((p0.len : Int) : Int) ≤ (p0.len : Int) ∧ (24 : Int) * (p0.len : Int) ≤ 281474976710656 ∧ ((p0.len : Int) : Int) ≤ 9223372036854775807) ∧
 E0 () (L_num_copied_num_Num__0.mk 0 pm ((List.replicate (Int.toNat (p0.len : Int)) [Value.slice none 0 0]).flatten)) V ∧
 (∀ (x2 : L_num_copied_num_Num__0) (V1 : View), View.le V V1 → I0 () x2 V1 →
 ((decide ((x2.t15 : Int) < (p0.len : Int))) = true →
 ((0 : Int) ≤ x2.t15 ∧ (x2.t15 : Int) < (p0.len : Nat) ∧ Option.isSome p0.a = true) ∧
 ∃ x3 : Sl, load2 x2.o0 V1 (Option.map (fun q => Addr.add q (Int.toNat x2.t15 * 1)) p0.a) (x3.v) ∧
 CallR Tryz.prog 131 #[x3.v] x2.o0 V1 fun v m1 V2 => ∃ r1 : Sl, v = r1.v ∧
 ((0 : Int) ≤ x2.t15 ∧ (x2.t15 : Int) < (Int.toNat (p0.len : Int) : Nat)) ∧
 0 + Int.toNat x2.t15 * 1 + 1 ≤ List.length x2.o12 ∧
 E1 (C_num_copied_num_Num__1.mk x2.t15 x2.t15) (L_num_copied_num_Num__1.mk 0 m1 (List.set x2.o12 (0 + Int.toNat x2.t15 * 1) (r1.v))) V2 ∧
 (∀ (x5 : L_num_copied_num_Num__1) (V3 : View), View.le V2 V3 → I1 (C_num_copied_num_Num__1.mk x2.t15 x2.t15) x5 V3 →
 ((decide ((x5.t27 : Int) < (p1.len : Int))) = true →
 ((0 : Int) ≤ x5.t27 ∧ (x5.t27 : Int) < (p1.len : Nat) ∧ Option.isSome p1.a = true) ∧
 ∃ x6 : Sl, load2 x5.o0 V3 (Option.map (fun q => Addr.add q (Int.toNat x5.t27 * 1)) p1.a) (x6.v) ∧
 ((0 : Int) ≤ x2.t15 ∧ (x2.t15 : Int) < (Int.toNat (p0.len : Int) : Nat)) ∧
 ∃ x7 : Sl, x5.o12[0 + Int.toNat x2.t15 * 1]? = some (x7.v) ∧
 ((0 : Int) ≤ x2.t15 ∧ (x2.t15 : Int) < (x6.len : Nat) ∧ Option.isSome x6.a = true) ∧
 ∃ x8 : NumV, has2 x5.o0 V3 (Option.map (fun q => Addr.add q (Int.toNat x2.t15 * 5)) x6.a) (x8.val).cells.toList ∧ Option.isSome (Option.map (fun q => Addr.add q (Int.toNat x2.t15 * 5)) x6.a) = true ∧
 ∀ (b1 : Nat) (V4 : View), View.le V3 V4 → View.Fin V4 → V4 b1 = some #[.bool x8.re.neg, x8.re.mag.v, .bool x8.im.neg, x8.im.mag.v, x8.under.v] →
 ∃ (l1 : List Value) (l2 : List Value), ((x7.len : Nat) ≤ x7.cap ∧ (x7.a = none → (x7.cap : Nat) = 0)) ∧ has2 x5.o0 V4 x7.a l1 ∧ List.length l1 = x7.len * 5 ∧ has2 x5.o0 V4 (some (Addr.mk b1 0 none)) l2 ∧ List.length l2 = 1 * 5 ∧ (∀ v ∈ l2, Value.oneCell' v = true) ∧ x7.len + 1 ≤ maxLen ∧ (x7.len + 1) * 88 ≤ 140737488355328 ∧ ((1 : Nat) ≠ 0 → x7.len + 1 ≤ x7.cap → ∃ (b2 c2 : Nat) (l3 : List Value), x7.a = some (Addr.mk b2 c2 none) ∧ x5.o0 b2 = some (List.toArray l3) ∧ c2 + (x7.len + 1) * 5 ≤ List.length l3) ∧
 ∀ (a1 : Option Addr) (c1 : Nat) (m2 : View), AppR x5.o0 V4 x7.a x7.len x7.cap 1 5 l1 l2 a1 c1 m2 →
 ((0 : Int) ≤ x2.t15 ∧ (x2.t15 : Int) < (Int.toNat (p0.len : Int) : Nat)) ∧
 0 + Int.toNat x2.t15 * 1 + 1 ≤ List.length x5.o12 ∧
 B1 (C_num_copied_num_Num__1.mk x2.t15 x2.t15) (L_num_copied_num_Num__1.mk (i64.wrap (x5.t27 + 1)) m2 (List.set x5.o12 (0 + Int.toNat x2.t15 * 1) (.slice a1 (x7.len + 1) c1))) V4 x5 V3) ∧
 ((decide ((x5.t27 : Int) < (p1.len : Int))) = false →
 B0 () (L_num_copied_num_Num__0.mk (i64.wrap (x2.t15 + 1)) x5.o0 x5.o12) V3 x2 V1))) ∧
 ((decide ((x2.t15 : Int) < (p0.len : Int))) = false →
 ∀ (b3 : Nat), x2.o0 b3 = none → V1 b3 = none →
 R ((Sl.mk (some (Addr.mk b3 0 none)) (Int.toNat (p0.len : Int)) (Int.toNat (p0.len : Int))).v) (View.upd x2.o0 b3 (List.toArray x2.o12)) V1))

theorem num_copied_num_Num__v0 (pm : View) (p0 : Sl) (p1 : Sl) (V : View) (R : Value → View → View → Prop) (I0 : Unit → L_num_copied_num_Num__0 → View → Prop) (J0 : Unit → L_num_copied_num_Num__0 → View → Nat) (I1 : C_num_copied_num_Num__1 → L_num_copied_num_Num__1 → View → Prop) (J1 : C_num_copied_num_Num__1 → L_num_copied_num_Num__1 → View → Nat) {X : Prop} (e : num_copied_num_Num__sk pm p0 p1 V R I0 I1 I0 (fun c w V x U => I0 c w V ∧ J0 c w V < J0 c x U) I1 (fun c w V x U => I1 c w V ∧ J1 c w V < J1 c x U) = X) (h : X) :
 CallR Tryz.prog 122 #[p0.v, p1.v] pm V R :=
 calls_of_vcR (Shp := Shp) (r := 0) (m := pm) hmixed Tryz.func122 (c := Tryz.f122.body.getD .skip) (args := [p0.v, p1.v]) (by kernel_rfl) (by kernel_rfl)
 (.seq (.reg [A 4 2]) (.seq (.reg [A 10 2, A 11 0, A 12 3, A 5 2]) (.seq (.seq (.reg [A 13 2, A 14 0, A 15 2]) (.block (.loop Unit L_num_copied_num_Num__0 (fun _ => ()) (fun c x => { tm := spT 47 0 [(1, .val (p1.v)), (5, .osl 12 0 (Int.toNat (p0.len : Int)) (Int.toNat (p0.len : Int))), (13, .val (p0.v)), (14, .val (.int .i64 (p0.len : Int))), (15, .val (.int .i64 x.t15))], own := spO 47 0 [(0, ⟨1, .reg x.o0⟩), (12, ⟨45, .dyn x.o12⟩)] }) I0 J0 (.seq (.reg [A 16 0]) (.seq (.cond .leaf .leaf) (.seq (.block (.seq (.reg [A 17 2, A 18 7, A 0 22, A 6 2, A 7 2]) (.seq (.reg [A 20 2, A 21 2, A 22 2, A 0 24, A 24 7, A 12 6]) (.seq (.reg [A 25 2, A 26 0, A 27 2]) (.block (.loop C_num_copied_num_Num__1 L_num_copied_num_Num__1 (fun σ => C_num_copied_num_Num__1.mk (gInt (gTm σ 6)) (gInt (gTm σ 15))) (fun c x => { tm := spT 47 0 [(1, .val (p1.v)), (5, .osl 12 0 (Int.toNat (p0.len : Int)) (Int.toNat (p0.len : Int))), (6, .val (.int .i64 c.t6)), (13, .val (p0.v)), (14, .val (.int .i64 (p0.len : Int))), (15, .val (.int .i64 c.t15)), (25, .val (p1.v)), (26, .val (.int .i64 (p1.len : Int))), (27, .val (.int .i64 x.t27))], own := spO 47 0 [(0, ⟨1, .reg x.o0⟩), (12, ⟨45, .dyn x.o12⟩)] }) I1 J1 (.seq (.reg [A 28 0]) (.seq (.cond .leaf .leaf) (.seq (.block (.seq (.reg [A 29 7, A 0 22, A 9 2]) (.draw [(0, A 31 2), (1, A 32 2), (2, A 33 2), (3, A 34 2), (4, A 35 7), (5, A 12 4), (6, A 37 2), (7, A 38 2), (8, A 39 7), (9, A 0 22), (10, A 41 11), (11, A 0 25), (12, A 43 7), (13, A 12 6)] [0, 0, 0, 0, 12, 28, 0, 0, 192, 448, 960, 2044, 4095, 8191]))) (.reg [A 44 0, A 27 2])))))))))) (.reg [A 45 0, A 15 2]))))))) (.seq (.reg [A 46 2, A 4 2]) (.giveR 12 0 .leaf)))))
 (Eq.mpr (by kernel_rfl) (show num_copied_num_Num__sk pm p0 p1 V R I0 I1 (fun c w V => ∃ x, num_copied_num_Num__f0 p0 p1 c w x ∧ I0 c x V) (fun c w V y U => ∃ x, num_copied_num_Num__f0 p0 p1 c w x ∧ I0 c x V ∧ J0 c x V < J0 c y U) (fun c w V => ∃ x, num_copied_num_Num__f1 p0 p1 c w x ∧ I1 c x V) (fun c w V y U => ∃ x, num_copied_num_Num__f1 p0 p1 c w x ∧ I1 c x V ∧ J1 c x V < J1 c y U) from by
 have h := Eq.mpr e h; unfold num_copied_num_Num__sk at h ⊢; have Ee0 := fun c w V (h : I0 c w V) => (⟨w, ⟨⟨rfl, rfl, rfl, rfl, rfl, trivial⟩, ⟨rfl, rfl, trivial⟩⟩, h⟩ : ∃ x, num_copied_num_Num__f0 p0 p1 c w x ∧ I0 c x V); have Bb0 := fun c w V y U (h : I0 c w V ∧ J0 c w V < J0 c y U) => (⟨w, ⟨⟨rfl, rfl, rfl, rfl, rfl, trivial⟩, ⟨rfl, rfl, trivial⟩⟩, h⟩ : ∃ x, num_copied_num_Num__f0 p0 p1 c w x ∧ I0 c x V ∧ J0 c x V < J0 c y U); have Ee1 := fun c w V (h : I1 c w V) => (⟨w, ⟨⟨rfl, rfl, rfl, rfl, rfl, rfl, rfl, rfl, rfl, trivial⟩, ⟨rfl, rfl, trivial⟩⟩, h⟩ : ∃ x, num_copied_num_Num__f1 p0 p1 c w x ∧ I1 c x V); have Bb1 := fun c w V y U (h : I1 c w V ∧ J1 c w V < J1 c y U) => (⟨w, ⟨⟨rfl, rfl, rfl, rfl, rfl, rfl, rfl, rfl, rfl, trivial⟩, ⟨rfl, rfl, trivial⟩⟩, h⟩ : ∃ x, num_copied_num_Num__f1 p0 p1 c w x ∧ I1 c x V ∧ J1 c x V < J1 c y U); exact ⟨h.1, ⟨(Ee0 _ _ _ h.2.1), fun x2 V1 h32 h33 => ⟨fun h31 => ⟨((h.2.2 x2 V1 h32 h33).1 h31).1, (match ((h.2.2 x2 V1 h32 h33).1 h31).2 with | ⟨x3, h28, h27⟩ => ⟨x3, h28, (CallR.mono h27 (fun _ m1 V2 _ _ ⟨r1, h26, h25⟩ => ⟨r1, h26, ⟨h25.1, ⟨h25.2.1, ⟨(Ee1 _ _ _ h25.2.2.1), fun x5 V3 h23 h24 => ⟨fun h22 => ⟨((h25.2.2.2 x5 V3 h23 h24).1 h22).1, (match ((h25.2.2.2 x5 V3 h23 h24).1 h22).2 with | ⟨x6, h21, h20⟩ => ⟨x6, h21, ⟨h20.1, (match h20.2 with | ⟨x7, h19, h18⟩ => ⟨x7, h19, ⟨h18.1, (match h18.2 with | ⟨x8, h16, h17, h15⟩ => ⟨x8, h16, h17, (fun b1 V4 h12 h13 h14 => (match (h15 b1 V4 h12 h13 h14) with | ⟨l1, l2, h3, h4, h5, h6, h7, h8, h9, h10, h11, h2⟩ => ⟨l1, l2, h3, h4, h5, h6, h7, h8, h9, h10, h11, (fun a1 c1 m2 h1 => ⟨(h2 a1 c1 m2 h1).1, ⟨(h2 a1 c1 m2 h1).2.1, (Bb1 _ _ _ _ _ (h2 a1 c1 m2 h1).2.2)⟩⟩)⟩))⟩)⟩⟩)⟩⟩)⟩, fun h22 => (Bb0 _ _ _ _ _ ((h25.2.2.2 x5 V3 h23 h24).2 h22))⟩⟩⟩⟩⟩))⟩)⟩, fun h31 => (fun b3 h29 h30 => (((h.2.2 x2 V1 h32 h33).2 h31) b3 h29 h30))⟩⟩⟩))

theorem num_copied_num_Num__vc : type_of% (fun pm p0 p1 V R I0 J0 I1 J1 => num_copied_num_Num__v0 pm p0 p1 V R I0 J0 I1 J1 (num_copied_num_Num__sk.eq_1 ..)) := fun pm p0 p1 V R I0 J0 I1 J1 => num_copied_num_Num__v0 pm p0 p1 V R I0 J0 I1 J1 (num_copied_num_Num__sk.eq_1 ..)

structure L_num_eliminate_num_Num__0 where
 t4 : Int
 t13 : Int
 o0 : View
structure L_num_eliminate_num_Num__1 where
 t6 : Int
structure C_num_eliminate_num_Num__1 where
 t4 : Int
 t5 : Int
 t13 : Int
 o0 : View
structure L_num_eliminate_num_Num__2 where
 t6 : Int
structure C_num_eliminate_num_Num__2 where
 t4 : Int
 t5 : Int
 t13 : Int
 o0 : View
structure L_num_eliminate_num_Num__3 where
 t4 : Int
 o0 : View
structure C_num_eliminate_num_Num__3 where
 t5 : Int
 t13 : Int
structure L_num_eliminate_num_Num__4 where
 t7 : Int
 o0 : View
structure C_num_eliminate_num_Num__4 where
 t4 : Int
 t5 : Int
 t13 : Int
structure L_num_eliminate_num_Num__5 where
 t10 : Int
 o0 : View
structure C_num_eliminate_num_Num__5 where
 t4 : Int
 t5 : Int
 t7 : Int
 t13 : Int
 o8_0 : Bool
 o8_1 : Sl
 o8_2 : Bool
 o8_3 : Sl
 o8_4 : Sl
def num_eliminate_num_Num__f0 (p0 : Sl) (_c : Unit) (w x : L_num_eliminate_num_Num__0) : Prop := (Q1 (.val (p0.v)) ∧ E2 (.val (.int .i64 w.t4)) (.val (.int .i64 x.t4)) ∧ Q1 (.val (.int .i64 (p0.len : Int))) ∧ E2 (.val (.int .i64 w.t13)) (.val (.int .i64 x.t13)) ∧ True) ∧ (O2 ⟨1, .reg w.o0⟩ ⟨1, .reg x.o0⟩ ∧ True)
def num_eliminate_num_Num__f1 (p0 : Sl) (c : C_num_eliminate_num_Num__1) (w x : L_num_eliminate_num_Num__1) : Prop := (Q1 (.val (p0.v)) ∧ Q1 (.val (.int .i64 c.t4)) ∧ Q1 (.val (.int .i64 c.t5)) ∧ E2 (.val (.int .i64 w.t6)) (.val (.int .i64 x.t6)) ∧ Q1 (.val (.int .i64 (p0.len : Int))) ∧ Q1 (.val (.int .i64 c.t13)) ∧ True) ∧ (O2 ⟨1, .reg c.o0⟩ ⟨1, .reg c.o0⟩ ∧ True)
def num_eliminate_num_Num__f2 (p0 : Sl) (c : C_num_eliminate_num_Num__2) (w x : L_num_eliminate_num_Num__2) : Prop := (Q1 (.val (p0.v)) ∧ Q1 (.val (.int .i64 c.t4)) ∧ Q1 (.val (.int .i64 c.t5)) ∧ E2 (.val (.int .i64 w.t6)) (.val (.int .i64 x.t6)) ∧ Q1 (.val (.int .i64 (p0.len : Int))) ∧ Q1 (.val (.int .i64 c.t13)) ∧ True) ∧ (O2 ⟨1, .reg c.o0⟩ ⟨1, .reg c.o0⟩ ∧ True)
def num_eliminate_num_Num__f3 (p0 : Sl) (c : C_num_eliminate_num_Num__3) (w x : L_num_eliminate_num_Num__3) : Prop := (Q1 (.val (p0.v)) ∧ E2 (.val (.int .i64 w.t4)) (.val (.int .i64 x.t4)) ∧ Q1 (.val (.int .i64 c.t5)) ∧ Q1 (.val (.int .i64 (p0.len : Int))) ∧ Q1 (.val (.int .i64 c.t13)) ∧ True) ∧ (O2 ⟨1, .reg w.o0⟩ ⟨1, .reg x.o0⟩ ∧ True)
def num_eliminate_num_Num__f4 (p0 : Sl) (c : C_num_eliminate_num_Num__4) (w x : L_num_eliminate_num_Num__4) : Prop := (Q1 (.val (p0.v)) ∧ Q1 (.val (.int .i64 c.t4)) ∧ Q1 (.val (.int .i64 c.t5)) ∧ E2 (.val (.int .i64 w.t7)) (.val (.int .i64 x.t7)) ∧ Q1 (.val (.int .i64 (p0.len : Int))) ∧ Q1 (.val (.int .i64 c.t13)) ∧ True) ∧ (O2 ⟨1, .reg w.o0⟩ ⟨1, .reg x.o0⟩ ∧ True)
def num_eliminate_num_Num__f5 (p0 : Sl) (c : C_num_eliminate_num_Num__5) (w x : L_num_eliminate_num_Num__5) : Prop := (Q1 (.val (p0.v)) ∧ Q1 (.val (.int .i64 c.t4)) ∧ Q1 (.val (.int .i64 c.t5)) ∧ Q1 (.val (.int .i64 c.t7)) ∧ Q1 (.own 8 0) ∧ E2 (.val (.int .i64 w.t10)) (.val (.int .i64 x.t10)) ∧ Q1 (.val (.int .i64 (p0.len : Int))) ∧ Q1 (.val (.int .i64 c.t13)) ∧ True) ∧ (O2 ⟨1, .reg w.o0⟩ ⟨1, .reg x.o0⟩ ∧ O2 ⟨31, .fixed [.val (.bool c.o8_0), .val (c.o8_1.v), .val (.bool c.o8_2), .val (c.o8_3.v), .val (c.o8_4.v)]⟩ ⟨31, .fixed [.val (.bool c.o8_0), .val (c.o8_1.v), .val (.bool c.o8_2), .val (c.o8_3.v), .val (c.o8_4.v)]⟩ ∧ True)
def num_eliminate_num_Num__sk (pm : View) (p0 : Sl) (V : View) (R : Value → View → View → Prop) (I0 : Unit → L_num_eliminate_num_Num__0 → View → Prop) (I1 : C_num_eliminate_num_Num__1 → L_num_eliminate_num_Num__1 → View → Prop) (I2 : C_num_eliminate_num_Num__2 → L_num_eliminate_num_Num__2 → View → Prop) (I3 : C_num_eliminate_num_Num__3 → L_num_eliminate_num_Num__3 → View → Prop) (I4 : C_num_eliminate_num_Num__4 → L_num_eliminate_num_Num__4 → View → Prop) (I5 : C_num_eliminate_num_Num__5 → L_num_eliminate_num_Num__5 → View → Prop) (E0 : Unit → L_num_eliminate_num_Num__0 → View → Prop) (B0 : Unit → L_num_eliminate_num_Num__0 → View → L_num_eliminate_num_Num__0 → View → Prop) (E1 : C_num_eliminate_num_Num__1 → L_num_eliminate_num_Num__1 → View → Prop) (E2 : C_num_eliminate_num_Num__2 → L_num_eliminate_num_Num__2 → View → Prop) (B2 : C_num_eliminate_num_Num__2 → L_num_eliminate_num_Num__2 → View → L_num_eliminate_num_Num__2 → View → Prop) (E3 : C_num_eliminate_num_Num__3 → L_num_eliminate_num_Num__3 → View → Prop) (E4 : C_num_eliminate_num_Num__4 → L_num_eliminate_num_Num__4 → View → Prop) (B4 : C_num_eliminate_num_Num__4 → L_num_eliminate_num_Num__4 → View → L_num_eliminate_num_Num__4 → View → Prop) (E5 : C_num_eliminate_num_Num__5 → L_num_eliminate_num_Num__5 → View → Prop) (B5 : C_num_eliminate_num_Num__5 → L_num_eliminate_num_Num__5 → View → L_num_eliminate_num_Num__5 → View → Prop) : Prop :=
 E0 () (L_num_eliminate_num_Num__0.mk 0 0 pm) V ∧
 (∀ (x2 : L_num_eliminate_num_Num__0) (V1 : View), View.le V V1 → I0 () x2 V1 →
 ((decide ((x2.t13 : Int) < (p0.len : Int))) = true →
 (E2 (C_num_eliminate_num_Num__2.mk x2.t4 x2.t13 x2.t13 x2.o0) (L_num_eliminate_num_Num__2.mk x2.t13) V1 ∧
 (∀ (x5 : L_num_eliminate_num_Num__2) (V3 : View), View.le V1 V3 → I2 (C_num_eliminate_num_Num__2.mk x2.t4 x2.t13 x2.t13 x2.o0) x5 V3 →
 ((decide ((x5.t6 : Int) < (p0.len : Int))) = true →
 ((0 : Int) ≤ x5.t6 ∧ (x5.t6 : Int) < (p0.len : Nat) ∧ Option.isSome p0.a = true) ∧
 ∃ x6 : Sl, load2 x2.o0 V3 (Option.map (fun q => Addr.add q (Int.toNat x5.t6 * 1)) p0.a) (x6.v) ∧
 ((0 : Int) ≤ x2.t13 ∧ (x2.t13 : Int) < (x6.len : Nat) ∧ Option.isSome x6.a = true) ∧
 ∃ x7 : NumV, has2 x2.o0 V3 (Option.map (fun q => Addr.add q (Int.toNat x2.t13 * 5)) x6.a) (x7.val).cells.toList ∧ Option.isSome (Option.map (fun q => Addr.add q (Int.toNat x2.t13 * 5)) x6.a) = true ∧
 CallV Tryz.prog 83 #[x7.val] V3 fun v V4 => ∃ r1 : Bool, v = .bool r1 ∧
 ((!r1) = true →
 B2 (C_num_eliminate_num_Num__2.mk x2.t4 x2.t13 x2.t13 x2.o0) (L_num_eliminate_num_Num__2.mk (i64.wrap (x5.t6 + 1))) V4 x5 V3) ∧
 ((!r1) = false →
 E1 (C_num_eliminate_num_Num__1.mk x2.t4 x2.t13 x2.t13 x2.o0) (L_num_eliminate_num_Num__1.mk x5.t6) V4)) ∧
 ((decide ((x5.t6 : Int) < (p0.len : Int))) = false →
 E1 (C_num_eliminate_num_Num__1.mk x2.t4 x2.t13 x2.t13 x2.o0) (L_num_eliminate_num_Num__1.mk x5.t6) V3))) ∧
 (∀ (x3 : L_num_eliminate_num_Num__1) (V2 : View), View.le V1 V2 → I1 (C_num_eliminate_num_Num__1.mk x2.t4 x2.t13 x2.t13 x2.o0) x3 V2 →
 (((x3.t6 : Int) == (p0.len : Int)) = true →
 R (.tuple #[.int .i64 x2.t4, .int .i64 x2.t13]) x2.o0 V2) ∧
 (((x3.t6 : Int) == (p0.len : Int)) = false →
 ((((x3.t6 : Int) != x2.t13) = true →
 ((0 : Int) ≤ x2.t13 ∧ (x2.t13 : Int) < (p0.len : Nat) ∧ Option.isSome p0.a = true) ∧
 ∃ x12 : Sl, load2 x2.o0 V2 (Option.map (fun q => Addr.add q (Int.toNat x2.t13 * 1)) p0.a) (x12.v) ∧
 ((0 : Int) ≤ x3.t6 ∧ (x3.t6 : Int) < (p0.len : Nat) ∧ Option.isSome p0.a = true) ∧
 ∃ x13 : Sl, load2 x2.o0 V2 (Option.map (fun q => Addr.add q (Int.toNat x3.t6 * 1)) p0.a) (x13.v) ∧
 ((0 : Int) ≤ x3.t6 ∧ (x3.t6 : Int) < (p0.len : Nat) ∧ Option.isSome p0.a = true) ∧
 ∃ (b1 : Nat) (c1 : Nat) (l1 : List Value), (Option.map (fun q => Addr.add q (Int.toNat x3.t6 * 1)) p0.a) = some (Addr.mk b1 c1 none) ∧ x2.o0 b1 = some (List.toArray l1) ∧ c1 + 1 ≤ List.length l1 ∧
 ((0 : Int) ≤ x2.t13 ∧ (x2.t13 : Int) < (p0.len : Nat) ∧ Option.isSome p0.a = true) ∧
 ∃ (b2 : Nat) (c2 : Nat) (l2 : List Value), (Option.map (fun q => Addr.add q (Int.toNat x2.t13 * 1)) p0.a) = some (Addr.mk b2 c2 none) ∧ (View.upd x2.o0 b1 (List.toArray (setL l1 c1 [x12.v]))) b2 = some (List.toArray l2) ∧ c2 + 1 ≤ List.length l2 ∧
 E3 (C_num_eliminate_num_Num__3.mk x2.t13 x2.t13) (L_num_eliminate_num_Num__3.mk (i64.wrap (x2.t4 + 1)) (View.upd (View.upd x2.o0 b1 (List.toArray (setL l1 c1 [x12.v]))) b2 (List.toArray (setL l2 c2 [x13.v])))) V2) ∧
 (((x3.t6 : Int) != x2.t13) = false →
 E3 (C_num_eliminate_num_Num__3.mk x2.t13 x2.t13) (L_num_eliminate_num_Num__3.mk x2.t4 x2.o0) V2)) ∧
 (∀ (x11 : L_num_eliminate_num_Num__3) (V5 : View), View.le V2 V5 → I3 (C_num_eliminate_num_Num__3.mk x2.t13 x2.t13) x11 V5 →
 E4 (C_num_eliminate_num_Num__4.mk x11.t4 x2.t13 x2.t13) (L_num_eliminate_num_Num__4.mk (i64.wrap (x2.t13 + 1)) x11.o0) V5 ∧
 (∀ (x17 : L_num_eliminate_num_Num__4) (V6 : View), View.le V5 V6 → I4 (C_num_eliminate_num_Num__4.mk x11.t4 x2.t13 x2.t13) x17 V6 →
 ((decide ((x17.t7 : Int) < (p0.len : Int))) = true →
 ((0 : Int) ≤ x17.t7 ∧ (x17.t7 : Int) < (p0.len : Nat) ∧ Option.isSome p0.a = true) ∧
 ∃ x18 : Sl, load2 x17.o0 V6 (Option.map (fun q => Addr.add q (Int.toNat x17.t7 * 1)) p0.a) (x18.v) ∧
 ((0 : Int) ≤ x2.t13 ∧ (x2.t13 : Int) < (x18.len : Nat) ∧ Option.isSome x18.a = true) ∧
 ∃ x19 : NumV, has2 x17.o0 V6 (Option.map (fun q => Addr.add q (Int.toNat x2.t13 * 5)) x18.a) (x19.val).cells.toList ∧ Option.isSome (Option.map (fun q => Addr.add q (Int.toNat x2.t13 * 5)) x18.a) = true ∧
 ((0 : Int) ≤ x2.t13 ∧ (x2.t13 : Int) < (p0.len : Nat) ∧ Option.isSome p0.a = true) ∧
 ∃ x20 : Sl, load2 x17.o0 V6 (Option.map (fun q => Addr.add q (Int.toNat x2.t13 * 1)) p0.a) (x20.v) ∧
 ((0 : Int) ≤ x2.t13 ∧ (x2.t13 : Int) < (x20.len : Nat) ∧ Option.isSome x20.a = true) ∧
 ∃ x21 : NumV, has2 x17.o0 V6 (Option.map (fun q => Addr.add q (Int.toNat x2.t13 * 5)) x20.a) (x21.val).cells.toList ∧ Option.isSome (Option.map (fun q => Addr.add q (Int.toNat x2.t13 * 5)) x20.a) = true ∧
 CallV Tryz.prog 201 #[x19.val, x21.val] V6 fun v V7 => ∃ (r2 : NumV) (r3 : Int), v = .tuple #[r2.val, .int .i64 r3] ∧
 E5 (C_num_eliminate_num_Num__5.mk x11.t4 x2.t13 x17.t7 x2.t13 r2.re.neg r2.re.mag r2.im.neg r2.im.mag r2.under) (L_num_eliminate_num_Num__5.mk (i64.wrap (x2.t13 + 1)) x17.o0) V7 ∧
 (∀ (x23 : L_num_eliminate_num_Num__5) (V8 : View), View.le V7 V8 → I5 (C_num_eliminate_num_Num__5.mk x11.t4 x2.t13 x17.t7 x2.t13 r2.re.neg r2.re.mag r2.im.neg r2.im.mag r2.under) x23 V8 →
 ((0 : Int) ≤ x17.t7 ∧ (x17.t7 : Int) < (p0.len : Nat) ∧ Option.isSome p0.a = true) ∧
 ∃ x24 : Sl, load2 x23.o0 V8 (Option.map (fun q => Addr.add q (Int.toNat x17.t7 * 1)) p0.a) (x24.v) ∧
 ((decide ((x23.t10 : Int) < (x24.len : Int))) = true →
 ((0 : Int) ≤ x17.t7 ∧ (x17.t7 : Int) < (p0.len : Nat) ∧ Option.isSome p0.a = true) ∧
 ∃ x25 : Sl, load2 x23.o0 V8 (Option.map (fun q => Addr.add q (Int.toNat x17.t7 * 1)) p0.a) (x25.v) ∧
 ((0 : Int) ≤ x17.t7 ∧ (x17.t7 : Int) < (p0.len : Nat) ∧ Option.isSome p0.a = true) ∧
 ∃ x26 : Sl, load2 x23.o0 V8 (Option.map (fun q => Addr.add q (Int.toNat x17.t7 * 1)) p0.a) (x26.v) ∧
 ((0 : Int) ≤ x23.t10 ∧ (x23.t10 : Int) < (x26.len : Nat) ∧ Option.isSome x26.a = true) ∧
 ∃ x27 : NumV, has2 x23.o0 V8 (Option.map (fun q => Addr.add q (Int.toNat x23.t10 * 5)) x26.a) (x27.val).cells.toList ∧ Option.isSome (Option.map (fun q => Addr.add q (Int.toNat x23.t10 * 5)) x26.a) = true ∧
 ((0 : Int) ≤ x2.t13 ∧ (x2.t13 : Int) < (p0.len : Nat) ∧ Option.isSome p0.a = true) ∧
 ∃ x28 : Sl, load2 x23.o0 V8 (Option.map (fun q => Addr.add q (Int.toNat x2.t13 * 1)) p0.a) (x28.v) ∧
 ((0 : Int) ≤ x23.t10 ∧ (x23.t10 : Int) < (x28.len : Nat) ∧ Option.isSome x28.a = true) ∧
 ∃ x29 : NumV, has2 x23.o0 V8 (Option.map (fun q => Addr.add q (Int.toNat x23.t10 * 5)) x28.a) (x29.val).cells.toList ∧ Option.isSome (Option.map (fun q => Addr.add q (Int.toNat x23.t10 * 5)) x28.a) = true ∧
 CallV Tryz.prog 209 #[r2.val, x29.val] V8 fun v V9 => ∃ r4 : NumV, v = r4.val ∧
 CallV Tryz.prog 17 #[x27.val, r4.val] V9 fun v V10 => ∃ r5 : NumV, v = r5.val ∧
 ((0 : Int) ≤ x23.t10 ∧ (x23.t10 : Int) < (x25.len : Nat) ∧ Option.isSome x25.a = true) ∧
 ∃ (b3 : Nat) (c3 : Nat) (l3 : List Value), (Option.map (fun q => Addr.add q (Int.toNat x23.t10 * 5)) x25.a) = some (Addr.mk b3 c3 none) ∧ x23.o0 b3 = some (List.toArray l3) ∧ c3 + 5 ≤ List.length l3 ∧
 B5 (C_num_eliminate_num_Num__5.mk x11.t4 x2.t13 x17.t7 x2.t13 r2.re.neg r2.re.mag r2.im.neg r2.im.mag r2.under) (L_num_eliminate_num_Num__5.mk (i64.wrap (x23.t10 + 1)) (View.upd x23.o0 b3 (List.toArray (setL l3 c3 [.bool r5.re.neg, r5.re.mag.v, .bool r5.im.neg, r5.im.mag.v, r5.under.v])))) V10 x23 V8) ∧
 ((decide ((x23.t10 : Int) < (x24.len : Int))) = false →
 B4 (C_num_eliminate_num_Num__4.mk x11.t4 x2.t13 x2.t13) (L_num_eliminate_num_Num__4.mk (i64.wrap (x17.t7 + 1)) x23.o0) V8 x17 V6))) ∧
 ((decide ((x17.t7 : Int) < (p0.len : Int))) = false →
 B0 () (L_num_eliminate_num_Num__0.mk x11.t4 (i64.wrap (x2.t13 + 1)) x17.o0) V6 x2 V1)))))) ∧
 ((decide ((x2.t13 : Int) < (p0.len : Int))) = false →
 R (.tuple #[.int .i64 x2.t4, .int .i64 (-1)]) x2.o0 V1))

theorem num_eliminate_num_Num__v0 (pm : View) (p0 : Sl) (V : View) (R : Value → View → View → Prop) (I0 : Unit → L_num_eliminate_num_Num__0 → View → Prop) (J0 : Unit → L_num_eliminate_num_Num__0 → View → Nat) (I1 : C_num_eliminate_num_Num__1 → L_num_eliminate_num_Num__1 → View → Prop) (I2 : C_num_eliminate_num_Num__2 → L_num_eliminate_num_Num__2 → View → Prop) (J2 : C_num_eliminate_num_Num__2 → L_num_eliminate_num_Num__2 → View → Nat) (I3 : C_num_eliminate_num_Num__3 → L_num_eliminate_num_Num__3 → View → Prop) (I4 : C_num_eliminate_num_Num__4 → L_num_eliminate_num_Num__4 → View → Prop) (J4 : C_num_eliminate_num_Num__4 → L_num_eliminate_num_Num__4 → View → Nat) (I5 : C_num_eliminate_num_Num__5 → L_num_eliminate_num_Num__5 → View → Prop) (J5 : C_num_eliminate_num_Num__5 → L_num_eliminate_num_Num__5 → View → Nat) {X : Prop} (e : num_eliminate_num_Num__sk pm p0 V R I0 I1 I2 I3 I4 I5 I0 (fun c w V x U => I0 c w V ∧ J0 c w V < J0 c x U) I1 I2 (fun c w V x U => I2 c w V ∧ J2 c w V < J2 c x U) I3 I4 (fun c w V x U => I4 c w V ∧ J4 c w V < J4 c x U) I5 (fun c w V x U => I5 c w V ∧ J5 c w V < J5 c x U) = X) (h : X) :
 CallR Tryz.prog 123 #[p0.v] pm V R :=
 calls_of_vcR (Shp := Shp) (r := 0) (m := pm) hmixed Tryz.func123 (c := Tryz.f123.body.getD .skip) (args := [p0.v]) (by kernel_rfl) (by kernel_rfl)
 (.seq (.reg [A 2 2, A 3 2]) (.seq (.reg [A 4 2]) (.seq (.seq (.reg [A 11 2, A 12 0, A 13 2]) (.block (.loop Unit L_num_eliminate_num_Num__0 (fun _ => ()) (fun c x => { tm := spT 125 0 [(0, .val (p0.v)), (4, .val (.int .i64 x.t4)), (12, .val (.int .i64 (p0.len : Int))), (13, .val (.int .i64 x.t13))], own := spO 125 0 [(0, ⟨1, .reg x.o0⟩)] }) I0 J0 (.seq (.reg [A 14 0]) (.seq (.cond .leaf .leaf) (.seq (.block (.seq (.reg [A 15 2, A 5 2]) (.seq (.reg [A 16 2, A 6 2]) (.cut C_num_eliminate_num_Num__1 L_num_eliminate_num_Num__1 (fun σ => C_num_eliminate_num_Num__1.mk (gInt (gTm σ 4)) (gInt (gTm σ 5)) (gInt (gTm σ 13)) (gReg σ 0)) (fun c x => { tm := spT 125 0 [(0, .val (p0.v)), (4, .val (.int .i64 c.t4)), (5, .val (.int .i64 c.t5)), (6, .val (.int .i64 x.t6)), (12, .val (.int .i64 (p0.len : Int))), (13, .val (.int .i64 c.t13))], own := spO 125 0 [(0, ⟨1, .reg c.o0⟩)] }) I1 (.block (.loop C_num_eliminate_num_Num__2 L_num_eliminate_num_Num__2 (fun σ => C_num_eliminate_num_Num__2.mk (gInt (gTm σ 4)) (gInt (gTm σ 5)) (gInt (gTm σ 13)) (gReg σ 0)) (fun c x => { tm := spT 125 0 [(0, .val (p0.v)), (4, .val (.int .i64 c.t4)), (5, .val (.int .i64 c.t5)), (6, .val (.int .i64 x.t6)), (12, .val (.int .i64 (p0.len : Int))), (13, .val (.int .i64 c.t13))], own := spO 125 0 [(0, ⟨1, .reg c.o0⟩)] }) I2 J2 (.seq (.seq (.reg [A 17 2, A 18 2, A 19 0, A 20 0, ⟨21, 2, true⟩, A 22 2, A 23 2, A 24 7, A 0 22, A 26 2, A 27 7, A 0 22, A 29 0, A 30 10, A 31 20, A 32 20]) (.cond .leaf .leaf)) (.block (.reg [A 33 2, A 34 0, A 6 2]))))) (.seq (.seq (.reg [A 35 2, A 36 2, A 37 0, A 38 0]) (.cond (.seq (.reg [A 39 2, A 40 2, A 2 2, A 3 2]) .leaf) .leaf)) (.cut C_num_eliminate_num_Num__3 L_num_eliminate_num_Num__3 (fun σ => C_num_eliminate_num_Num__3.mk (gInt (gTm σ 5)) (gInt (gTm σ 13))) (fun c x => { tm := spT 125 0 [(0, .val (p0.v)), (4, .val (.int .i64 x.t4)), (5, .val (.int .i64 c.t5)), (12, .val (.int .i64 (p0.len : Int))), (13, .val (.int .i64 c.t13))], own := spO 125 0 [(0, ⟨1, .reg x.o0⟩)] }) I3 (.seq (.reg [A 41 2, A 42 2, A 43 0]) (.cond (.seq (.draw [(0, A 44 2), (1, A 45 2), (2, A 46 2), (3, A 47 2), (4, A 48 2), (5, A 49 2), (6, A 50 7), (7, A 0 22), (8, A 52 2), (9, A 53 2), (10, A 54 7), (11, A 0 22), (12, A 56 7), (13, A 0 23), (14, A 57 7), (15, A 0 23)] [0, 0, 0, 0, 0, 0, 48, 112, 0, 0, 768, 1792, 4083, 8179, 16383, 32767]) (.reg [A 58 2, A 59 0, A 4 2])) .leaf)) (.seq (.reg [A 60 2, A 61 0, A 7 2]) (.block (.loop C_num_eliminate_num_Num__4 L_num_eliminate_num_Num__4 (fun σ => C_num_eliminate_num_Num__4.mk (gInt (gTm σ 4)) (gInt (gTm σ 5)) (gInt (gTm σ 13))) (fun c x => { tm := spT 125 0 [(0, .val (p0.v)), (4, .val (.int .i64 c.t4)), (5, .val (.int .i64 c.t5)), (7, .val (.int .i64 x.t7)), (12, .val (.int .i64 (p0.len : Int))), (13, .val (.int .i64 c.t13))], own := spO 125 0 [(0, ⟨1, .reg x.o0⟩)] }) I4 J4 (.seq (.seq (.reg [A 62 2, A 63 2, A 64 0, A 65 0]) (.cond .leaf .leaf)) (.seq (.block (.seq (.draw [(0, A 69 2), (1, A 70 2), (2, A 71 7), (3, A 0 22), (4, A 73 2), (5, A 74 7), (6, A 0 22), (7, A 76 0), (8, A 77 2), (9, A 78 2), (10, A 79 7), (11, A 0 22), (12, A 81 2), (13, A 82 7), (14, A 0 22), (19, A 8 3), (15, A 84 10), (16, A 68 2), (17, A 85 0), (18, A 86 0), (20, A 8 6), (21, A 9 2)] [0, 0, 3, 7, 0, 31, 63, 127, 0, 0, 768, 1792, 0, 7936, 16128, 32767, 65535, 131071, 131071, 0, 786431, 2097151]) (.seq (.reg [A 87 2, A 88 0, A 10 2]) (.block (.loop C_num_eliminate_num_Num__5 L_num_eliminate_num_Num__5 (fun σ => C_num_eliminate_num_Num__5.mk (gInt (gTm σ 4)) (gInt (gTm σ 5)) (gInt (gTm σ 7)) (gInt (gTm σ 13)) (gBool (gOwn σ 8 0)) (Sl.mk (gSlA (gOwn σ 8 1)) (gSlL (gOwn σ 8 1)) (gSlC (gOwn σ 8 1))) (gBool (gOwn σ 8 2)) (Sl.mk (gSlA (gOwn σ 8 3)) (gSlL (gOwn σ 8 3)) (gSlC (gOwn σ 8 3))) (Sl.mk (gSlA (gOwn σ 8 4)) (gSlL (gOwn σ 8 4)) (gSlC (gOwn σ 8 4)))) (fun c x => { tm := spT 125 0 [(0, .val (p0.v)), (4, .val (.int .i64 c.t4)), (5, .val (.int .i64 c.t5)), (7, .val (.int .i64 c.t7)), (8, .own 8 0), (10, .val (.int .i64 x.t10)), (12, .val (.int .i64 (p0.len : Int))), (13, .val (.int .i64 c.t13))], own := spO 125 0 [(0, ⟨1, .reg x.o0⟩), (8, ⟨31, .fixed [.val (.bool c.o8_0), .val (c.o8_1.v), .val (.bool c.o8_2), .val (c.o8_3.v), .val (c.o8_4.v)]⟩)] }) I5 J5 (.seq (.seq (.reg [A 89 2, A 90 2, A 91 2, A 92 7, A 0 22, A 94 0, A 95 0]) (.cond .leaf .leaf)) (.seq (.block (.draw [(0, A 98 2), (1, A 99 2), (2, A 100 7), (3, A 0 22), (4, A 102 2), (5, A 103 2), (6, A 104 2), (7, A 105 7), (8, A 0 22), (9, A 107 2), (10, A 108 7), (11, A 0 22), (12, A 110 0), (13, A 8 4), (14, A 112 0), (15, A 113 2), (16, A 114 2), (17, A 115 7), (18, A 0 22), (19, A 117 2), (20, A 118 7), (21, A 0 22), (22, A 120 10), (23, A 121 10), (24, A 122 7), (25, A 0 23)] [0, 0, 3, 7, 0, 0, 0, 96, 224, 0, 992, 2016, 4064, 0, 8192, 0, 0, 98304, 229376, 0, 1015808, 2064384, 4186112, 8388576, 16777215, 33554431])) (.reg [A 96 2, A 97 0, A 10 2])))))))) (.reg [A 66 2, A 67 0, A 7 2])))))))))))) (.reg [A 123 0, A 13 2]))))))) (.seq (.reg [A 124 2, A 2 2, A 3 2]) .leaf))))
 (Eq.mpr (by kernel_rfl) (show num_eliminate_num_Num__sk pm p0 V R I0 I1 I2 I3 I4 I5 (fun c w V => ∃ x, num_eliminate_num_Num__f0 p0 c w x ∧ I0 c x V) (fun c w V y U => ∃ x, num_eliminate_num_Num__f0 p0 c w x ∧ I0 c x V ∧ J0 c x V < J0 c y U) (fun c w V => ∃ x, num_eliminate_num_Num__f1 p0 c w x ∧ I1 c x V) (fun c w V => ∃ x, num_eliminate_num_Num__f2 p0 c w x ∧ I2 c x V) (fun c w V y U => ∃ x, num_eliminate_num_Num__f2 p0 c w x ∧ I2 c x V ∧ J2 c x V < J2 c y U) (fun c w V => ∃ x, num_eliminate_num_Num__f3 p0 c w x ∧ I3 c x V) (fun c w V => ∃ x, num_eliminate_num_Num__f4 p0 c w x ∧ I4 c x V) (fun c w V y U => ∃ x, num_eliminate_num_Num__f4 p0 c w x ∧ I4 c x V ∧ J4 c x V < J4 c y U) (fun c w V => ∃ x, num_eliminate_num_Num__f5 p0 c w x ∧ I5 c x V) (fun c w V y U => ∃ x, num_eliminate_num_Num__f5 p0 c w x ∧ I5 c x V ∧ J5 c x V < J5 c y U) from by
 have h := Eq.mpr e h; unfold num_eliminate_num_Num__sk at h ⊢; have Ee0 := fun c w V (h : I0 c w V) => (⟨w, ⟨⟨rfl, rfl, rfl, rfl, trivial⟩, ⟨rfl, trivial⟩⟩, h⟩ : ∃ x, num_eliminate_num_Num__f0 p0 c w x ∧ I0 c x V); have Bb0 := fun c w V y U (h : I0 c w V ∧ J0 c w V < J0 c y U) => (⟨w, ⟨⟨rfl, rfl, rfl, rfl, trivial⟩, ⟨rfl, trivial⟩⟩, h⟩ : ∃ x, num_eliminate_num_Num__f0 p0 c w x ∧ I0 c x V ∧ J0 c x V < J0 c y U); have Ee1 := fun c w V (h : I1 c w V) => (⟨w, ⟨⟨rfl, rfl, rfl, rfl, rfl, rfl, trivial⟩, ⟨rfl, trivial⟩⟩, h⟩ : ∃ x, num_eliminate_num_Num__f1 p0 c w x ∧ I1 c x V); have Ee2 := fun c w V (h : I2 c w V) => (⟨w, ⟨⟨rfl, rfl, rfl, rfl, rfl, rfl, trivial⟩, ⟨rfl, trivial⟩⟩, h⟩ : ∃ x, num_eliminate_num_Num__f2 p0 c w x ∧ I2 c x V); have Bb2 := fun c w V y U (h : I2 c w V ∧ J2 c w V < J2 c y U) => (⟨w, ⟨⟨rfl, rfl, rfl, rfl, rfl, rfl, trivial⟩, ⟨rfl, trivial⟩⟩, h⟩ : ∃ x, num_eliminate_num_Num__f2 p0 c w x ∧ I2 c x V ∧ J2 c x V < J2 c y U); have Ee3 := fun c w V (h : I3 c w V) => (⟨w, ⟨⟨rfl, rfl, rfl, rfl, rfl, trivial⟩, ⟨rfl, trivial⟩⟩, h⟩ : ∃ x, num_eliminate_num_Num__f3 p0 c w x ∧ I3 c x V); have Ee4 := fun c w V (h : I4 c w V) => (⟨w, ⟨⟨rfl, rfl, rfl, rfl, rfl, rfl, trivial⟩, ⟨rfl, trivial⟩⟩, h⟩ : ∃ x, num_eliminate_num_Num__f4 p0 c w x ∧ I4 c x V); have Bb4 := fun c w V y U (h : I4 c w V ∧ J4 c w V < J4 c y U) => (⟨w, ⟨⟨rfl, rfl, rfl, rfl, rfl, rfl, trivial⟩, ⟨rfl, trivial⟩⟩, h⟩ : ∃ x, num_eliminate_num_Num__f4 p0 c w x ∧ I4 c x V ∧ J4 c x V < J4 c y U); have Ee5 := fun c w V (h : I5 c w V) => (⟨w, ⟨⟨rfl, rfl, rfl, rfl, rfl, rfl, rfl, rfl, trivial⟩, ⟨rfl, rfl, trivial⟩⟩, h⟩ : ∃ x, num_eliminate_num_Num__f5 p0 c w x ∧ I5 c x V); have Bb5 := fun c w V y U (h : I5 c w V ∧ J5 c w V < J5 c y U) => (⟨w, ⟨⟨rfl, rfl, rfl, rfl, rfl, rfl, rfl, rfl, trivial⟩, ⟨rfl, rfl, trivial⟩⟩, h⟩ : ∃ x, num_eliminate_num_Num__f5 p0 c w x ∧ I5 c x V ∧ J5 c x V < J5 c y U); exact ⟨(Ee0 _ _ _ h.1), fun x2 V1 h71 h72 => ⟨fun h70 => ⟨⟨(Ee2 _ _ _ ((h.2 x2 V1 h71 h72).1 h70).1.1), fun x5 V3 h10 h11 => ⟨fun h9 => ⟨((((h.2 x2 V1 h71 h72).1 h70).1.2 x5 V3 h10 h11).1 h9).1, (match ((((h.2 x2 V1 h71 h72).1 h70).1.2 x5 V3 h10 h11).1 h9).2 with | ⟨x6, h8, h7⟩ => ⟨x6, h8, ⟨h7.1, (match h7.2 with | ⟨x7, h5, h6, h4⟩ => ⟨x7, h5, h6, (CallV.mono h4 (fun _ _ _ ⟨r1, h3, h2⟩ => ⟨r1, h3, ⟨fun h1 => (Bb2 _ _ _ _ _ (h2.1 h1)), fun h1 => (Ee1 _ _ _ (h2.2 h1))⟩⟩))⟩)⟩⟩)⟩, fun h9 => (Ee1 _ _ _ ((((h.2 x2 V1 h71 h72).1 h70).1.2 x5 V3 h10 h11).2 h9))⟩⟩, fun x3 V2 h68 h69 => ⟨fun h67 => ((((h.2 x2 V1 h71 h72).1 h70).2 x3 V2 h68 h69).1 h67), fun h67 => ⟨⟨fun h24 => ⟨(((((h.2 x2 V1 h71 h72).1 h70).2 x3 V2 h68 h69).2 h67).1.1 h24).1, (match (((((h.2 x2 V1 h71 h72).1 h70).2 x3 V2 h68 h69).2 h67).1.1 h24).2 with | ⟨x12, h23, h22⟩ => ⟨x12, h23, ⟨h22.1, (match h22.2 with | ⟨x13, h21, h20⟩ => ⟨x13, h21, ⟨h20.1, (match h20.2 with | ⟨b1, c1, l1, h17, h18, h19, h16⟩ => ⟨b1, c1, l1, h17, h18, h19, ⟨h16.1, (match h16.2 with | ⟨b2, c2, l2, h13, h14, h15, h12⟩ => ⟨b2, c2, l2, h13, h14, h15, (Ee3 _ _ _ h12)⟩)⟩⟩)⟩⟩)⟩⟩)⟩, fun h24 => (Ee3 _ _ _ (((((h.2 x2 V1 h71 h72).1 h70).2 x3 V2 h68 h69).2 h67).1.2 h24))⟩, fun x11 V5 h65 h66 => ⟨(Ee4 _ _ _ (((((h.2 x2 V1 h71 h72).1 h70).2 x3 V2 h68 h69).2 h67).2 x11 V5 h65 h66).1), fun x17 V6 h63 h64 => ⟨fun h62 => ⟨(((((((h.2 x2 V1 h71 h72).1 h70).2 x3 V2 h68 h69).2 h67).2 x11 V5 h65 h66).2 x17 V6 h63 h64).1 h62).1, (match (((((((h.2 x2 V1 h71 h72).1 h70).2 x3 V2 h68 h69).2 h67).2 x11 V5 h65 h66).2 x17 V6 h63 h64).1 h62).2 with | ⟨x18, h61, h60⟩ => ⟨x18, h61, ⟨h60.1, (match h60.2 with | ⟨x19, h58, h59, h57⟩ => ⟨x19, h58, h59, ⟨h57.1, (match h57.2 with | ⟨x20, h56, h55⟩ => ⟨x20, h56, ⟨h55.1, (match h55.2 with | ⟨x21, h53, h54, h52⟩ => ⟨x21, h53, h54, (CallV.mono h52 (fun _ _ _ ⟨r2, r3, h51, h50⟩ => ⟨r2, r3, h51, ⟨(Ee5 _ _ _ h50.1), fun x23 V8 h48 h49 => ⟨(h50.2 x23 V8 h48 h49).1, (match (h50.2 x23 V8 h48 h49).2 with | ⟨x24, h47, h46⟩ => ⟨x24, h47, ⟨fun h45 => ⟨(h46.1 h45).1, (match (h46.1 h45).2 with | ⟨x25, h44, h43⟩ => ⟨x25, h44, ⟨h43.1, (match h43.2 with | ⟨x26, h42, h41⟩ => ⟨x26, h42, ⟨h41.1, (match h41.2 with | ⟨x27, h39, h40, h38⟩ => ⟨x27, h39, h40, ⟨h38.1, (match h38.2 with | ⟨x28, h37, h36⟩ => ⟨x28, h37, ⟨h36.1, (match h36.2 with | ⟨x29, h34, h35, h33⟩ => ⟨x29, h34, h35, (CallV.mono h33 (fun _ _ _ ⟨r4, h32, h31⟩ => ⟨r4, h32, (CallV.mono h31 (fun _ _ _ ⟨r5, h30, h29⟩ => ⟨r5, h30, ⟨h29.1, (match h29.2 with | ⟨b3, c3, l3, h26, h27, h28, h25⟩ => ⟨b3, c3, l3, h26, h27, h28, (Bb5 _ _ _ _ _ h25)⟩)⟩⟩))⟩))⟩)⟩⟩)⟩⟩)⟩⟩)⟩⟩)⟩, fun h45 => (Bb4 _ _ _ _ _ (h46.2 h45))⟩⟩)⟩⟩⟩))⟩)⟩⟩)⟩⟩)⟩⟩)⟩, fun h62 => (Bb0 _ _ _ _ _ (((((((h.2 x2 V1 h71 h72).1 h70).2 x3 V2 h68 h69).2 h67).2 x11 V5 h65 h66).2 x17 V6 h63 h64).2 h62))⟩⟩⟩⟩⟩, fun h70 => ((h.2 x2 V1 h71 h72).2 h70)⟩⟩))

theorem num_eliminate_num_Num__vc : type_of% (fun pm p0 V R I0 J0 I1 I2 J2 I3 I4 J4 I5 J5 => num_eliminate_num_Num__v0 pm p0 V R I0 J0 I1 I2 J2 I3 I4 J4 I5 J5 (num_eliminate_num_Num__sk.eq_1 ..)) := fun pm p0 V R I0 J0 I1 I2 J2 I3 I4 J4 I5 J5 => num_eliminate_num_Num__v0 pm p0 V R I0 J0 I1 I2 J2 I3 I4 J4 I5 J5 (num_eliminate_num_Num__sk.eq_1 ..)

end Go.Proofs.YtefkpimcffofaaaGreat
