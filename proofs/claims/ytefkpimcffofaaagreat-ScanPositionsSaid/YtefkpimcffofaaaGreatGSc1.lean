/- Part of the proof; it has the parts GSc1. -/
import Derived.Test.YtefkpimcffofaaaGreatGMl
set_option maxRecDepth 100000
set_option maxHeartbeats 4000000
namespace Go.Proofs.YtefkpimcffofaaaGreat
open Go Go.Vc Go.Proofs
open Go.IntKind (i8 i16 i32 i64 u8 u16 u32 u64)

theorem scan_Spot_axes_vc (p0 : SpotV) (V : View) (R : Value → View → Prop) 
 (h :
 R ((Arr3_NumV.mk p0.x p0.y p0.z).val) V) :
 CallV Tryz.prog 183 #[p0.val] V R :=
 calls_of_vc (Shp := Shp) hmixed Tryz.func183 (c := Tryz.f183.body.getD .skip) (args := [p0.val]) (by kernel_rfl)
 (.seq (.reg [A 1 3, A 2 3]) (.seq (.reg [A 3 7, A 1 4, A 5 7, A 1 4, A 7 7, A 1 4, A 9 0, A 2 6]) .leaf))
 (Eq.mpr (by kernel_rfl) h)

theorem scan_spot_vc (p0 : Arr3_NumV) (V : View) (R : Value → View → Prop) 
 (h :
 ((0 : Int) ≤ 0 ∧ (0 : Int) < ((3 : Nat) : Int)) ∧
 ((0 : Int) ≤ 1 ∧ (1 : Int) < ((3 : Nat) : Int)) ∧
 ((0 : Int) ≤ 2 ∧ (2 : Int) < ((3 : Nat) : Int)) ∧
 R ((SpotV.mk p0.e0 p0.e1 p0.e2).val) V) :
 CallV Tryz.prog 185 #[p0.val] V R :=
 calls_of_vc (Shp := Shp) hmixed Tryz.func185 (c := Tryz.f185.body.getD .skip) (args := [p0.val]) (by kernel_rfl)
 (.seq (.reg [A 1 3, A 2 3]) (.seq (.reg [A 3 7, A 1 4, A 5 7, A 1 4, A 7 7, A 1 4, A 9 0, A 2 6]) .leaf))
 (Eq.mpr (by kernel_rfl) h)

theorem scan_right_1_vc (p0 : SpotV) (V : View) (R : Value → View → Prop) 
 (h :
 CallV Tryz.prog 167 #[p0.x.val] V fun v V1 => ∃ r1 : Bool, v = .bool r1 ∧
 ((!r1) = true →
 R (.bool true) V1) ∧
 ((!r1) = false →
 CallV Tryz.prog 167 #[p0.y.val] V1 fun v V2 => ∃ r2 : Bool, v = .bool r2 ∧
 ((!r2) = true →
 R (.bool true) V2) ∧
 ((!r2) = false →
 CallV Tryz.prog 167 #[p0.z.val] V2 fun v V3 => ∃ r3 : Bool, v = .bool r3 ∧
 R (.bool (!r3)) V3))) :
 CallV Tryz.prog 281 #[p0.val] V R :=
 calls_of_vc (Shp := Shp) hmixed Tryz.func281 (c := Tryz.f281.body.getD .skip) (args := [p0.val]) (by kernel_rfl)
 (.seq (.reg [A 1 3, A 2 9]) (.seq (.reg [A 3 7, A 1 4, A 5 10, A 6 20, ⟨7, 2, true⟩, A 8 7, A 1 4, A 10 10, A 11 20, A 12 20, ⟨13, 2, true⟩, A 14 7, A 1 4, A 16 10, A 17 20, A 18 20, A 2 2]) .leaf))
 (Eq.mpr (by kernel_rfl) h)

structure L_slices_IndexFunc___scan_Spot_scan_Spot___scan_right_1_0 where
 t8 : Int
def slices_IndexFunc___scan_Spot_scan_Spot___scan_right_1_f0 (p0 : Sl) (_c : Unit) (w x : L_slices_IndexFunc___scan_Spot_scan_Spot___scan_right_1_0) : Prop := (Q1 (.val (p0.v)) ∧ Q1 (.val (.func (.func 281) #[] #[])) ∧ Q1 (.val (.int .i64 (p0.len : Int))) ∧ E2 (.val (.int .i64 w.t8)) (.val (.int .i64 x.t8)) ∧ True) ∧ (True)
def slices_IndexFunc___scan_Spot_scan_Spot___scan_right_1_sk (p0 : Sl) (p1 : Fn0) (V : View) (R : Value → View → Prop) (I0 : Unit → L_slices_IndexFunc___scan_Spot_scan_Spot___scan_right_1_0 → View → Prop) (E0 : Unit → L_slices_IndexFunc___scan_Spot_scan_Spot___scan_right_1_0 → View → Prop) (B0 : Unit → L_slices_IndexFunc___scan_Spot_scan_Spot___scan_right_1_0 → View → L_slices_IndexFunc___scan_Spot_scan_Spot___scan_right_1_0 → View → Prop) : Prop :=
 E0 () (L_slices_IndexFunc___scan_Spot_scan_Spot___scan_right_1_0.mk 0) V ∧
 (∀ (x2 : L_slices_IndexFunc___scan_Spot_scan_Spot___scan_right_1_0) (V1 : View), View.le V V1 → I0 () x2 V1 →
 ((decide ((x2.t8 : Int) < (p0.len : Int))) = true →
 ((0 : Int) ≤ x2.t8 ∧ (x2.t8 : Int) < (p0.len : Nat) ∧ Option.isSome p0.a = true) ∧
 ∃ x3 : SpotV, View.has V1 (Option.map (fun q => Addr.add q (Int.toNat x2.t8 * 15)) p0.a) (x3.val).cells.toList ∧ Option.isSome (Option.map (fun q => Addr.add q (Int.toNat x2.t8 * 15)) p0.a) = true ∧
 CallV Tryz.prog 281 #[x3.val] V1 fun v V2 => ∃ r1 : Bool, v = .bool r1 ∧
 (r1 = true →
 R (.int .i64 x2.t8) V2) ∧
 (r1 = false →
 B0 () (L_slices_IndexFunc___scan_Spot_scan_Spot___scan_right_1_0.mk (i64.wrap (x2.t8 + 1))) V2 x2 V1)) ∧
 ((decide ((x2.t8 : Int) < (p0.len : Int))) = false →
 R (.int .i64 (-1)) V1))

theorem slices_IndexFunc___scan_Spot_scan_Spot___scan_right_1_v0 (p0 : Sl) (p1 : Fn0) (V : View) (R : Value → View → Prop) (I0 : Unit → L_slices_IndexFunc___scan_Spot_scan_Spot___scan_right_1_0 → View → Prop) (J0 : Unit → L_slices_IndexFunc___scan_Spot_scan_Spot___scan_right_1_0 → View → Nat) {X : Prop} (e : slices_IndexFunc___scan_Spot_scan_Spot___scan_right_1_sk p0 p1 V R I0 I0 (fun c w V x U => I0 c w V ∧ J0 c w V < J0 c x U) = X) (h : X) :
 CallV Tryz.prog 339 #[p0.v, p1.val 281] V R :=
 calls_of_vc (Shp := Shp) hmixed Tryz.func339 (c := Tryz.f339.body.getD .skip) (args := [p0.v, p1.val 281]) (by kernel_rfl)
 (.seq (.reg [A 4 2]) (.seq (.seq (.reg [A 6 2, A 7 0, A 8 2]) (.block (.loop Unit L_slices_IndexFunc___scan_Spot_scan_Spot___scan_right_1_0 (fun _ => ()) (fun c x => { tm := spT 19 0 [(0, .val (p0.v)), (1, .val (.func (.func 281) #[] #[])), (7, .val (.int .i64 (p0.len : Int))), (8, .val (.int .i64 x.t8))], own := spO 19 0 [] }) I0 J0 (.seq (.reg [A 9 0]) (.seq (.cond .leaf .leaf) (.seq (.block (.seq (.reg [A 10 2, A 5 2]) (.seq (.reg [A 11 2, A 12 2, A 13 2, A 14 7, A 15 5, A 16 10]) (.cond (.seq (.reg [A 17 2, A 4 2]) .leaf) .leaf)))) (.reg [A 18 0, A 8 2]))))))) (.seq (.reg [A 4 2]) .leaf)))
 (Eq.mpr (by kernel_rfl) (show slices_IndexFunc___scan_Spot_scan_Spot___scan_right_1_sk p0 p1 V R I0 (fun c w V => ∃ x, slices_IndexFunc___scan_Spot_scan_Spot___scan_right_1_f0 p0 c w x ∧ I0 c x V) (fun c w V y U => ∃ x, slices_IndexFunc___scan_Spot_scan_Spot___scan_right_1_f0 p0 c w x ∧ I0 c x V ∧ J0 c x V < J0 c y U) from by
 have h := Eq.mpr e h; unfold slices_IndexFunc___scan_Spot_scan_Spot___scan_right_1_sk at h ⊢; have Ee0 := fun c w V (h : I0 c w V) => (⟨w, ⟨⟨rfl, rfl, rfl, rfl, trivial⟩, trivial⟩, h⟩ : ∃ x, slices_IndexFunc___scan_Spot_scan_Spot___scan_right_1_f0 p0 c w x ∧ I0 c x V); have Bb0 := fun c w V y U (h : I0 c w V ∧ J0 c w V < J0 c y U) => (⟨w, ⟨⟨rfl, rfl, rfl, rfl, trivial⟩, trivial⟩, h⟩ : ∃ x, slices_IndexFunc___scan_Spot_scan_Spot___scan_right_1_f0 p0 c w x ∧ I0 c x V ∧ J0 c x V < J0 c y U); exact ⟨(Ee0 _ _ _ h.1), fun x2 V1 h8 h9 => ⟨fun h7 => ⟨((h.2 x2 V1 h8 h9).1 h7).1, (match ((h.2 x2 V1 h8 h9).1 h7).2 with | ⟨x3, h5, h6, h4⟩ => ⟨x3, h5, h6, (CallV.mono h4 (fun _ _ _ ⟨r1, h3, h2⟩ => ⟨r1, h3, ⟨fun h1 => (h2.1 h1), fun h1 => (Bb0 _ _ _ _ _ (h2.2 h1))⟩⟩))⟩)⟩, fun h7 => ((h.2 x2 V1 h8 h9).2 h7)⟩⟩))

theorem slices_IndexFunc___scan_Spot_scan_Spot___scan_right_1_vc : type_of% (fun p0 p1 V R I0 J0 => slices_IndexFunc___scan_Spot_scan_Spot___scan_right_1_v0 p0 p1 V R I0 J0 (slices_IndexFunc___scan_Spot_scan_Spot___scan_right_1_sk.eq_1 ..)) := fun p0 p1 V R I0 J0 => slices_IndexFunc___scan_Spot_scan_Spot___scan_right_1_v0 p0 p1 V R I0 J0 (slices_IndexFunc___scan_Spot_scan_Spot___scan_right_1_sk.eq_1 ..)

theorem slices_ContainsFunc___scan_Spot_scan_Spot___scan_right_1_vc (p0 : Sl) (p1 : Fn0) (V : View) (R : Value → View → Prop) 
 (h :
 CallV Tryz.prog 339 #[p0.v, (Fn0.mk ).val 281] V fun v V1 => ∃ r1 : Int, v = .int .i64 r1 ∧
 R (.bool (decide ((r1 : Int) ≥ 0))) V1) :
 CallV Tryz.prog 280 #[p0.v, p1.val 281] V R :=
 calls_of_vc (Shp := Shp) hmixed Tryz.func280 (c := Tryz.f280.body.getD .skip) (args := [p0.v, p1.val 281]) (by kernel_rfl)
 (.seq (.reg [A 4 9]) (.seq (.reg [A 5 2, A 6 2, A 7 10, A 8 0, A 4 2]) .leaf))
 (Eq.mpr (by kernel_rfl) h)

theorem scan_right_vc (p0 : Sl) (V : View) (R : Value → View → Prop) 
 (h :
 CallV Tryz.prog 280 #[p0.v, .func (.func 281) #[] #[]] V fun v V1 => ∃ r1 : Bool, v = .bool r1 ∧
 R (.bool (!r1)) V1) :
 CallV Tryz.prog 181 #[p0.v] V R :=
 calls_of_vc (Shp := Shp) hmixed Tryz.func181 (c := Tryz.f181.body.getD .skip) (args := [p0.v]) (by kernel_rfl)
 (.seq (.reg [A 2 9]) (.seq (.reg [A 3 2, A 4 10, A 5 20, A 2 2]) .leaf))
 (Eq.mpr (by kernel_rfl) h)

theorem scan_Frame_right_vc (p0 : FrameV) (V : View) (R : Value → View → Prop) 
 (h :
 ∀ (b1 : Nat) (V1 : View), View.le V V1 → View.Fin V1 → V1 b1 = some #[.bool p0.o.x.re.neg, p0.o.x.re.mag.v, .bool p0.o.x.im.neg, p0.o.x.im.mag.v, p0.o.x.under.v, .bool p0.o.y.re.neg, p0.o.y.re.mag.v, .bool p0.o.y.im.neg, p0.o.y.im.mag.v, p0.o.y.under.v, .bool p0.o.z.re.neg, p0.o.z.re.mag.v, .bool p0.o.z.im.neg, p0.o.z.im.mag.v, p0.o.z.under.v, .bool p0.u.x.re.neg, p0.u.x.re.mag.v, .bool p0.u.x.im.neg, p0.u.x.im.mag.v, p0.u.x.under.v, .bool p0.u.y.re.neg, p0.u.y.re.mag.v, .bool p0.u.y.im.neg, p0.u.y.im.mag.v, p0.u.y.under.v, .bool p0.u.z.re.neg, p0.u.z.re.mag.v, .bool p0.u.z.im.neg, p0.u.z.im.mag.v, p0.u.z.under.v, .bool p0.v.x.re.neg, p0.v.x.re.mag.v, .bool p0.v.x.im.neg, p0.v.x.im.mag.v, p0.v.x.under.v, .bool p0.v.y.re.neg, p0.v.y.re.mag.v, .bool p0.v.y.im.neg, p0.v.y.im.mag.v, p0.v.y.under.v, .bool p0.v.z.re.neg, p0.v.z.re.mag.v, .bool p0.v.z.im.neg, p0.v.z.im.mag.v, p0.v.z.under.v] →
 CallV Tryz.prog 181 #[(Sl.mk (some (Addr.mk b1 0 none)) 3 3).v] V1 fun v V2 => ∃ r1 : Bool, v = .bool r1 ∧
 R (.bool r1) V2) :
 CallV Tryz.prog 191 #[p0.val] V R :=
 calls_of_vc (Shp := Shp) hmixed Tryz.func191 (c := Tryz.f191.body.getD .skip) (args := [p0.val]) (by kernel_rfl)
 (.seq (.reg [A 1 3, A 2 9]) (.seq (.reg [A 3 7, A 1 4, A 5 7, A 1 4, A 7 7, A 1 4, A 9 11, A 10 10, A 2 2]) .leaf))
 (Eq.mpr (by kernel_rfl) h)

theorem scan_dot_vc (p0 : SpotV) (p1 : SpotV) (V : View) (R : Value → View → Prop) 
 (h :
 CallV Tryz.prog 209 #[p0.x.val, p1.x.val] V fun v V1 => ∃ r1 : NumV, v = r1.val ∧
 CallV Tryz.prog 209 #[p0.y.val, p1.y.val] V1 fun v V2 => ∃ r2 : NumV, v = r2.val ∧
 CallV Tryz.prog 19 #[r1.val, r2.val] V2 fun v V3 => ∃ r3 : NumV, v = r3.val ∧
 CallV Tryz.prog 209 #[p0.z.val, p1.z.val] V3 fun v V4 => ∃ r4 : NumV, v = r4.val ∧
 CallV Tryz.prog 19 #[r3.val, r4.val] V4 fun v V5 => ∃ r5 : NumV, v = r5.val ∧
 R (r5.val) V5) :
 CallV Tryz.prog 194 #[p0.val, p1.val] V R :=
 calls_of_vc (Shp := Shp) hmixed Tryz.func194 (c := Tryz.f194.body.getD .skip) (args := [p0.val, p1.val]) (by kernel_rfl)
 (.seq (.reg [A 2 3, A 3 3, A 4 3]) (.seq (.draw [(0, A 5 7), (1, A 2 4), (2, A 7 7), (3, A 3 4), (5, A 10 7), (6, A 2 4), (7, A 12 7), (8, A 3 4), (11, A 16 7), (12, A 2 4), (13, A 18 7), (14, A 3 4), (4, A 9 10), (9, A 14 10), (10, A 15 10), (15, A 20 10), (16, A 21 10), (17, A 4 6)] [0, 1, 0, 4, 15, 0, 32, 0, 128, 511, 1023, 0, 2048, 0, 8192, 32767, 65535, 131071]) .leaf))
 (Eq.mpr (by kernel_rfl) h)

structure L_scan_along_0 where
 t14 : Int
 o6 : SpotV
 o7 : List Value
structure C_scan_along_0 where
 o8 : List Value
def scan_along_f0 (p1 : NumV) (c : C_scan_along_0) (w x : L_scan_along_0) : Prop := (Q1 (.own 4 0) ∧ Q1 (.own 6 0) ∧ Q1 (.own 7 0) ∧ Q1 (.own 8 0) ∧ E2 (.val (.int .i64 w.t14)) (.val (.int .i64 x.t14)) ∧ True) ∧ (O2 ⟨31, .fixed [.val (.bool p1.re.neg), .val (p1.re.mag.v), .val (.bool p1.im.neg), .val (p1.im.mag.v), .val (p1.under.v)]⟩ ⟨31, .fixed [.val (.bool p1.re.neg), .val (p1.re.mag.v), .val (.bool p1.im.neg), .val (p1.im.mag.v), .val (p1.under.v)]⟩ ∧ O2 ⟨137, .fixed [.val (.bool w.o6.x.re.neg), .val (w.o6.x.re.mag.v), .val (.bool w.o6.x.im.neg), .val (w.o6.x.im.mag.v), .val (w.o6.x.under.v), .val (.bool w.o6.y.re.neg), .val (w.o6.y.re.mag.v), .val (.bool w.o6.y.im.neg), .val (w.o6.y.im.mag.v), .val (w.o6.y.under.v), .val (.bool w.o6.z.re.neg), .val (w.o6.z.re.mag.v), .val (.bool w.o6.z.im.neg), .val (w.o6.z.im.mag.v), .val (w.o6.z.under.v)]⟩ ⟨137, .fixed [.val (.bool x.o6.x.re.neg), .val (x.o6.x.re.mag.v), .val (.bool x.o6.x.im.neg), .val (x.o6.x.im.mag.v), .val (x.o6.x.under.v), .val (.bool x.o6.y.re.neg), .val (x.o6.y.re.mag.v), .val (.bool x.o6.y.im.neg), .val (x.o6.y.im.mag.v), .val (x.o6.y.under.v), .val (.bool x.o6.z.re.neg), .val (x.o6.z.re.mag.v), .val (.bool x.o6.z.im.neg), .val (x.o6.z.im.mag.v), .val (x.o6.z.under.v)]⟩ ∧ O2 ⟨276, .dyn w.o7⟩ ⟨276, .dyn x.o7⟩ ∧ O2 ⟨276, .dyn c.o8⟩ ⟨276, .dyn c.o8⟩ ∧ True)
def scan_along_sk (p0 : SpotV) (p1 : NumV) (p2 : SpotV) (V : View) (R : Value → View → Prop) (I0 : C_scan_along_0 → L_scan_along_0 → View → Prop) (E0 : C_scan_along_0 → L_scan_along_0 → View → Prop) (B0 : C_scan_along_0 → L_scan_along_0 → View → L_scan_along_0 → View → Prop) : Prop :=
 CallV Tryz.prog 183 #[p0.val] V fun v V1 => ∃ r1 : Arr3_NumV, v = r1.val ∧
 CallV Tryz.prog 183 #[p2.val] V1 fun v V2 => ∃ r2 : Arr3_NumV, v = r2.val ∧
 E0 (C_scan_along_0.mk ([.bool r2.e0.re.neg, r2.e0.re.mag.v, .bool r2.e0.im.neg, r2.e0.im.mag.v, r2.e0.under.v, .bool r2.e1.re.neg, r2.e1.re.mag.v, .bool r2.e1.im.neg, r2.e1.im.mag.v, r2.e1.under.v, .bool r2.e2.re.neg, r2.e2.re.mag.v, .bool r2.e2.im.neg, r2.e2.im.mag.v, r2.e2.under.v] : List Value)) (L_scan_along_0.mk 0 (SpotV.mk (NumV.mk (WhV.mk false (Sl.mk none 0 0)) (WhV.mk false (Sl.mk none 0 0)) (Sl.mk none 0 0)) (NumV.mk (WhV.mk false (Sl.mk none 0 0)) (WhV.mk false (Sl.mk none 0 0)) (Sl.mk none 0 0)) (NumV.mk (WhV.mk false (Sl.mk none 0 0)) (WhV.mk false (Sl.mk none 0 0)) (Sl.mk none 0 0))) ([.bool r1.e0.re.neg, r1.e0.re.mag.v, .bool r1.e0.im.neg, r1.e0.im.mag.v, r1.e0.under.v, .bool r1.e1.re.neg, r1.e1.re.mag.v, .bool r1.e1.im.neg, r1.e1.im.mag.v, r1.e1.under.v, .bool r1.e2.re.neg, r1.e2.re.mag.v, .bool r1.e2.im.neg, r1.e2.im.mag.v, r1.e2.under.v] : List Value)) V2 ∧
 (∀ (x2 : L_scan_along_0) (V3 : View), View.le V2 V3 → I0 (C_scan_along_0.mk ([.bool r2.e0.re.neg, r2.e0.re.mag.v, .bool r2.e0.im.neg, r2.e0.im.mag.v, r2.e0.under.v, .bool r2.e1.re.neg, r2.e1.re.mag.v, .bool r2.e1.im.neg, r2.e1.im.mag.v, r2.e1.under.v, .bool r2.e2.re.neg, r2.e2.re.mag.v, .bool r2.e2.im.neg, r2.e2.im.mag.v, r2.e2.under.v] : List Value)) x2 V3 →
 ((decide ((x2.t14 : Int) < 3)) = true →
 ((0 : Int) ≤ x2.t14 ∧ (x2.t14 : Int) < ((3 : Nat) : Int)) ∧
 ∃ x3 : NumV, List.take 5 (List.drop (0 + Int.toNat x2.t14 * 5) x2.o7) = (x3.val).cells.toList ∧
 ((0 : Int) ≤ x2.t14 ∧ (x2.t14 : Int) < ((3 : Nat) : Int)) ∧
 ∃ x4 : NumV, List.take 5 (List.drop (0 + Int.toNat x2.t14 * 5) ([.bool r2.e0.re.neg, r2.e0.re.mag.v, .bool r2.e0.im.neg, r2.e0.im.mag.v, r2.e0.under.v, .bool r2.e1.re.neg, r2.e1.re.mag.v, .bool r2.e1.im.neg, r2.e1.im.mag.v, r2.e1.under.v, .bool r2.e2.re.neg, r2.e2.re.mag.v, .bool r2.e2.im.neg, r2.e2.im.mag.v, r2.e2.under.v] : List Value)) = (x4.val).cells.toList ∧
 CallV Tryz.prog 209 #[p1.val, x4.val] V3 fun v V4 => ∃ r3 : NumV, v = r3.val ∧
 CallV Tryz.prog 19 #[x3.val, r3.val] V4 fun v V5 => ∃ r4 : NumV, v = r4.val ∧
 ((0 : Int) ≤ x2.t14 ∧ (x2.t14 : Int) < ((3 : Nat) : Int)) ∧
 0 + Int.toNat x2.t14 * 5 + 5 ≤ List.length x2.o7 ∧
 B0 (C_scan_along_0.mk ([.bool r2.e0.re.neg, r2.e0.re.mag.v, .bool r2.e0.im.neg, r2.e0.im.mag.v, r2.e0.under.v, .bool r2.e1.re.neg, r2.e1.re.mag.v, .bool r2.e1.im.neg, r2.e1.im.mag.v, r2.e1.under.v, .bool r2.e2.re.neg, r2.e2.re.mag.v, .bool r2.e2.im.neg, r2.e2.im.mag.v, r2.e2.under.v] : List Value)) (L_scan_along_0.mk (i64.wrap (x2.t14 + 1)) x2.o6 (setL x2.o7 (0 + Int.toNat x2.t14 * 5) [.bool r4.re.neg, r4.re.mag.v, .bool r4.im.neg, r4.im.mag.v, r4.under.v])) V5 x2 V3) ∧
 ((decide ((x2.t14 : Int) < 3)) = false →
 ∃ x6 : Arr3_NumV, List.take 15 (List.drop 0 x2.o7) = (x6.val).cells.toList ∧
 CallV Tryz.prog 185 #[x6.val] V3 fun v V6 => ∃ r5 : SpotV, v = r5.val ∧
 R (r5.val) V6))

theorem scan_along_v0 (p0 : SpotV) (p1 : NumV) (p2 : SpotV) (V : View) (R : Value → View → Prop) (I0 : C_scan_along_0 → L_scan_along_0 → View → Prop) (J0 : C_scan_along_0 → L_scan_along_0 → View → Nat) {X : Prop} (e : scan_along_sk p0 p1 p2 V R I0 I0 (fun c w V x U => I0 c w V ∧ J0 c w V < J0 c x U) = X) (h : X) :
 CallV Tryz.prog 202 #[p0.val, p1.val, p2.val] V R :=
 calls_of_vc (Shp := Shp) hmixed Tryz.func202 (c := Tryz.f202.body.getD .skip) (args := [p0.val, p1.val, p2.val]) (by kernel_rfl)
 (.seq (.reg [A 3 3, A 4 3, A 5 3, A 6 3]) (.seq (.draw [(0, A 3 4), (2, A 5 4), (4, A 7 3), (5, A 8 3), (1, A 11 10), (3, A 13 10), (6, A 7 6), (7, A 8 6)] [0, 1, 0, 7, 0, 0, 63, 127]) (.seq (.seq (.reg [A 14 2]) (.block (.flat 7 (.flat 8 (.loop C_scan_along_0 L_scan_along_0 (fun σ => C_scan_along_0.mk (gDyn σ 8)) (fun c x => { tm := spT 31 0 [(4, .own 4 0), (6, .own 6 0), (7, .own 7 0), (8, .own 8 0), (14, .val (.int .i64 x.t14))], own := spO 31 0 [(4, ⟨31, .fixed [.val (.bool p1.re.neg), .val (p1.re.mag.v), .val (.bool p1.im.neg), .val (p1.im.mag.v), .val (p1.under.v)]⟩), (6, ⟨137, .fixed [.val (.bool x.o6.x.re.neg), .val (x.o6.x.re.mag.v), .val (.bool x.o6.x.im.neg), .val (x.o6.x.im.mag.v), .val (x.o6.x.under.v), .val (.bool x.o6.y.re.neg), .val (x.o6.y.re.mag.v), .val (.bool x.o6.y.im.neg), .val (x.o6.y.im.mag.v), .val (x.o6.y.under.v), .val (.bool x.o6.z.re.neg), .val (x.o6.z.re.mag.v), .val (.bool x.o6.z.im.neg), .val (x.o6.z.im.mag.v), .val (x.o6.z.under.v)]⟩), (7, ⟨276, .dyn x.o7⟩), (8, ⟨276, .dyn c.o8⟩)] }) I0 J0 (.seq (.reg [A 15 0]) (.seq (.cond .leaf .leaf) (.seq (.block (.seq (.reg [A 16 2, A 9 2]) (.draw [(0, A 17 2), (1, A 18 2), (2, A 19 7), (3, A 7 4), (4, A 4 4), (5, A 22 2), (6, A 23 7), (7, A 8 4), (8, A 25 10), (9, A 26 10), (10, A 27 7), (11, A 7 6)] [0, 0, 2, 6, 0, 0, 32, 96, 240, 510, 1023, 2047]))) (.reg [A 28 0, A 14 2]))))))))) (.seq (.reg [A 7 4, A 30 10, A 6 6]) .leaf))))
 (Eq.mpr (by kernel_rfl) (show scan_along_sk p0 p1 p2 V R I0 (fun c w V => ∃ x, scan_along_f0 p1 c w x ∧ I0 c x V) (fun c w V y U => ∃ x, scan_along_f0 p1 c w x ∧ I0 c x V ∧ J0 c x V < J0 c y U) from by
 have h := Eq.mpr e h; unfold scan_along_sk at h ⊢; have Ee0 := fun c w V (h : I0 c w V) => (⟨w, ⟨⟨rfl, rfl, rfl, rfl, rfl, trivial⟩, ⟨rfl, rfl, rfl, rfl, trivial⟩⟩, h⟩ : ∃ x, scan_along_f0 p1 c w x ∧ I0 c x V); have Bb0 := fun c w V y U (h : I0 c w V ∧ J0 c w V < J0 c y U) => (⟨w, ⟨⟨rfl, rfl, rfl, rfl, rfl, trivial⟩, ⟨rfl, rfl, rfl, rfl, trivial⟩⟩, h⟩ : ∃ x, scan_along_f0 p1 c w x ∧ I0 c x V ∧ J0 c x V < J0 c y U); exact (CallV.mono h (fun _ _ _ ⟨r1, h19, h18⟩ => ⟨r1, h19, (CallV.mono h18 (fun _ _ _ ⟨r2, h17, h16⟩ => ⟨r2, h17, ⟨(Ee0 _ _ _ h16.1), fun x2 V3 h14 h15 => ⟨fun h13 => ⟨((h16.2 x2 V3 h14 h15).1 h13).1, (match ((h16.2 x2 V3 h14 h15).1 h13).2 with | ⟨x3, h8, h7⟩ => ⟨x3, h8, ⟨h7.1, (match h7.2 with | ⟨x4, h6, h5⟩ => ⟨x4, h6, (CallV.mono h5 (fun _ _ _ ⟨r3, h4, h3⟩ => ⟨r3, h4, (CallV.mono h3 (fun _ _ _ ⟨r4, h2, h1⟩ => ⟨r4, h2, ⟨h1.1, ⟨h1.2.1, (Bb0 _ _ _ _ _ h1.2.2)⟩⟩⟩))⟩))⟩)⟩⟩)⟩, fun h13 => (match ((h16.2 x2 V3 h14 h15).2 h13) with | ⟨x6, h12, h11⟩ => ⟨x6, h12, (CallV.mono h11 (fun _ _ _ ⟨r5, h10, h9⟩ => ⟨r5, h10, h9⟩))⟩)⟩⟩⟩))⟩))))

theorem scan_along_vc : type_of% (fun p0 p1 p2 V R I0 J0 => scan_along_v0 p0 p1 p2 V R I0 J0 (scan_along_sk.eq_1 ..)) := fun p0 p1 p2 V R I0 J0 => scan_along_v0 p0 p1 p2 V R I0 J0 (scan_along_sk.eq_1 ..)

theorem scan_less_vc (p0 : SpotV) (p1 : SpotV) (V : View) (R : Value → View → Prop) 
 (h :
 CallV Tryz.prog 82 #[.int .i64 (-1)] V fun v V1 => ∃ r1 : NumV, v = r1.val ∧
 CallV Tryz.prog 202 #[p0.val, r1.val, p1.val] V1 fun v V2 => ∃ r2 : SpotV, v = r2.val ∧
 R (r2.val) V2) :
 CallV Tryz.prog 192 #[p0.val, p1.val] V R :=
 calls_of_vc (Shp := Shp) hmixed Tryz.func192 (c := Tryz.f192.body.getD .skip) (args := [p0.val, p1.val]) (by kernel_rfl)
 (.seq (.reg [A 2 3, A 3 3, A 4 3]) (.seq (.draw [(0, A 2 4), (2, A 3 4), (1, A 6 10), (3, A 8 10), (4, A 4 6)] [0, 0, 0, 7, 15]) .leaf))
 (Eq.mpr (by kernel_rfl) h)

theorem scan_whole_vc (p0 : Int) (V : View) (R : Value → View → Prop) 
 (h :
 CallV Tryz.prog 82 #[.int .i64 p0] V fun v V1 => ∃ r1 : NumV, v = r1.val ∧
 R (r1.val) V1) :
 CallV Tryz.prog 182 #[.int .i64 p0] V R :=
 calls_of_vc (Shp := Shp) hmixed Tryz.func182 (c := Tryz.f182.body.getD .skip) (args := [.int .i64 p0]) (by kernel_rfl)
 (.seq (.reg [A 2 3]) (.seq (.reg [A 3 2, A 4 10, A 2 6]) .leaf))
 (Eq.mpr (by kernel_rfl) h)

theorem scan_Frame_place_vc (p0 : FrameV) (p1 : NumV) (p2 : NumV) (V : View) (R : Value → View → Prop) 
 (h :
 CallV Tryz.prog 202 #[p0.o.val, p1.val, p0.u.val] V fun v V1 => ∃ r1 : SpotV, v = r1.val ∧
 CallV Tryz.prog 202 #[r1.val, p2.val, p0.v.val] V1 fun v V2 => ∃ r2 : SpotV, v = r2.val ∧
 R (r2.val) V2) :
 CallV Tryz.prog 193 #[p0.val, p1.val, p2.val] V R :=
 calls_of_vc (Shp := Shp) hmixed Tryz.func193 (c := Tryz.f193.body.getD .skip) (args := [p0.val, p1.val, p2.val]) (by kernel_rfl)
 (.seq (.reg [A 3 3, A 4 3, A 5 3, A 6 3]) (.seq (.draw [(0, A 7 7), (1, A 3 4), (2, A 4 4), (3, A 10 7), (4, A 3 4), (6, A 5 4), (7, A 14 7), (8, A 3 4), (5, A 12 10), (9, A 16 10), (10, A 6 6)] [0, 1, 0, 0, 8, 31, 0, 0, 128, 511, 1023]) .leaf))
 (Eq.mpr (by kernel_rfl) h)

end Go.Proofs.YtefkpimcffofaaaGreat
