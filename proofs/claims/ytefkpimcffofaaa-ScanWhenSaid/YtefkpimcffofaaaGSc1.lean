/- Part of the proof; it has the parts GSc1. -/
import Derived.Test.YtefkpimcffofaaaGMl
set_option maxRecDepth 100000
set_option maxHeartbeats 4000000
namespace Go.Proofs.Ytefkpimcffofaaa
open Go Go.Vc Go.Proofs
open Go.IntKind (i8 i16 i32 i64 u8 u16 u32 u64)

theorem scan_Spot_axes_vc (p0 : SpotV) (V : View) (R : Value → View → Prop) 
 (h :
 R ((Arr3_NumV.mk p0.x p0.y p0.z).val) V) :
 CallV Try.prog 88 #[p0.val] V R :=
 calls_of_vc (Shp := Shp) hmixed Try.func88 (c := Try.f88.body.getD .skip) (args := [p0.val]) (by kernel_rfl)
 (.seq (.reg [A 1 3, A 2 3]) (.seq (.reg [A 3 7, A 1 4, A 5 7, A 1 4, A 7 7, A 1 4, A 9 0, A 2 6]) .leaf))
 (Eq.mpr (by kernel_rfl) h)

theorem scan_spot_vc (p0 : Arr3_NumV) (V : View) (R : Value → View → Prop) 
 (h :
 ((0 : Int) ≤ 0 ∧ (0 : Int) < ((3 : Nat) : Int)) ∧
 ((0 : Int) ≤ 1 ∧ (1 : Int) < ((3 : Nat) : Int)) ∧
 ((0 : Int) ≤ 2 ∧ (2 : Int) < ((3 : Nat) : Int)) ∧
 R ((SpotV.mk p0.e0 p0.e1 p0.e2).val) V) :
 CallV Try.prog 90 #[p0.val] V R :=
 calls_of_vc (Shp := Shp) hmixed Try.func90 (c := Try.f90.body.getD .skip) (args := [p0.val]) (by kernel_rfl)
 (.seq (.reg [A 1 3, A 2 3]) (.seq (.reg [A 3 7, A 1 4, A 5 7, A 1 4, A 7 7, A 1 4, A 9 0, A 2 6]) .leaf))
 (Eq.mpr (by kernel_rfl) h)

theorem scan_right_1_vc (p0 : SpotV) (V : View) (R : Value → View → Prop) 
 (h :
 CallV Try.prog 61 #[p0.x.val] V fun v V1 => ∃ r1 : Bool, v = .bool r1 ∧
 ((!r1) = true →
 R (.bool true) V1) ∧
 ((!r1) = false →
 CallV Try.prog 61 #[p0.y.val] V1 fun v V2 => ∃ r2 : Bool, v = .bool r2 ∧
 ((!r2) = true →
 R (.bool true) V2) ∧
 ((!r2) = false →
 CallV Try.prog 61 #[p0.z.val] V2 fun v V3 => ∃ r3 : Bool, v = .bool r3 ∧
 R (.bool (!r3)) V3))) :
 CallV Try.prog 110 #[p0.val] V R :=
 calls_of_vc (Shp := Shp) hmixed Try.func110 (c := Try.f110.body.getD .skip) (args := [p0.val]) (by kernel_rfl)
 (.seq (.reg [A 1 3, A 2 9]) (.seq (.reg [A 3 7, A 1 4, A 5 10, A 6 20, ⟨7, 2, true⟩, A 8 7, A 1 4, A 10 10, A 11 20, A 12 20, ⟨13, 2, true⟩, A 14 7, A 1 4, A 16 10, A 17 20, A 18 20, A 2 2]) .leaf))
 (Eq.mpr (by kernel_rfl) h)

structure L_slices_IndexFunc___scan_Spot_scan_Spot___scan_right_1_0 where
 t8 : Int
def slices_IndexFunc___scan_Spot_scan_Spot___scan_right_1_f0 (p0 : Sl) (_c : Unit) (w x : L_slices_IndexFunc___scan_Spot_scan_Spot___scan_right_1_0) : Prop := (Q1 (.val (p0.v)) ∧ Q1 (.val (.func (.func 110) #[] #[])) ∧ Q1 (.val (.int .i64 (p0.len : Int))) ∧ E2 (.val (.int .i64 w.t8)) (.val (.int .i64 x.t8)) ∧ True) ∧ (True)
def slices_IndexFunc___scan_Spot_scan_Spot___scan_right_1_sk (p0 : Sl) (p1 : Fn0) (V : View) (R : Value → View → Prop) (I0 : Unit → L_slices_IndexFunc___scan_Spot_scan_Spot___scan_right_1_0 → View → Prop) (E0 : Unit → L_slices_IndexFunc___scan_Spot_scan_Spot___scan_right_1_0 → View → Prop) (B0 : Unit → L_slices_IndexFunc___scan_Spot_scan_Spot___scan_right_1_0 → View → L_slices_IndexFunc___scan_Spot_scan_Spot___scan_right_1_0 → View → Prop) : Prop :=
 E0 () (L_slices_IndexFunc___scan_Spot_scan_Spot___scan_right_1_0.mk 0) V ∧
 (∀ (x2 : L_slices_IndexFunc___scan_Spot_scan_Spot___scan_right_1_0) (V1 : View), View.le V V1 → I0 () x2 V1 →
 ((decide ((x2.t8 : Int) < (p0.len : Int))) = true →
 ((0 : Int) ≤ x2.t8 ∧ (x2.t8 : Int) < (p0.len : Nat) ∧ Option.isSome p0.a = true) ∧
 ∃ x3 : SpotV, View.has V1 (Option.map (fun q => Addr.add q (Int.toNat x2.t8 * 15)) p0.a) (x3.val).cells.toList ∧ Option.isSome (Option.map (fun q => Addr.add q (Int.toNat x2.t8 * 15)) p0.a) = true ∧
 CallV Try.prog 110 #[x3.val] V1 fun v V2 => ∃ r1 : Bool, v = .bool r1 ∧
 (r1 = true →
 R (.int .i64 x2.t8) V2) ∧
 (r1 = false →
 B0 () (L_slices_IndexFunc___scan_Spot_scan_Spot___scan_right_1_0.mk (i64.wrap (x2.t8 + 1))) V2 x2 V1)) ∧
 ((decide ((x2.t8 : Int) < (p0.len : Int))) = false →
 R (.int .i64 (-1)) V1))

theorem slices_IndexFunc___scan_Spot_scan_Spot___scan_right_1_v0 (p0 : Sl) (p1 : Fn0) (V : View) (R : Value → View → Prop) (I0 : Unit → L_slices_IndexFunc___scan_Spot_scan_Spot___scan_right_1_0 → View → Prop) (J0 : Unit → L_slices_IndexFunc___scan_Spot_scan_Spot___scan_right_1_0 → View → Nat) {X : Prop} (e : slices_IndexFunc___scan_Spot_scan_Spot___scan_right_1_sk p0 p1 V R I0 I0 (fun c w V x U => I0 c w V ∧ J0 c w V < J0 c x U) = X) (h : X) :
 CallV Try.prog 121 #[p0.v, p1.val 110] V R :=
 calls_of_vc (Shp := Shp) hmixed Try.func121 (c := Try.f121.body.getD .skip) (args := [p0.v, p1.val 110]) (by kernel_rfl)
 (.seq (.reg [A 4 2]) (.seq (.seq (.reg [A 6 2, A 7 0, A 8 2]) (.block (.loop Unit L_slices_IndexFunc___scan_Spot_scan_Spot___scan_right_1_0 (fun _ => ()) (fun c x => { tm := spT 19 0 [(0, .val (p0.v)), (1, .val (.func (.func 110) #[] #[])), (7, .val (.int .i64 (p0.len : Int))), (8, .val (.int .i64 x.t8))], own := spO 19 0 [] }) I0 J0 (.seq (.reg [A 9 0]) (.seq (.cond .leaf .leaf) (.seq (.block (.seq (.reg [A 10 2, A 5 2]) (.seq (.reg [A 11 2, A 12 2, A 13 2, A 14 7, A 15 5, A 16 10]) (.cond (.seq (.reg [A 17 2, A 4 2]) .leaf) .leaf)))) (.reg [A 18 0, A 8 2]))))))) (.seq (.reg [A 4 2]) .leaf)))
 (Eq.mpr (by kernel_rfl) (show slices_IndexFunc___scan_Spot_scan_Spot___scan_right_1_sk p0 p1 V R I0 (fun c w V => ∃ x, slices_IndexFunc___scan_Spot_scan_Spot___scan_right_1_f0 p0 c w x ∧ I0 c x V) (fun c w V y U => ∃ x, slices_IndexFunc___scan_Spot_scan_Spot___scan_right_1_f0 p0 c w x ∧ I0 c x V ∧ J0 c x V < J0 c y U) from by
 have h := Eq.mpr e h; unfold slices_IndexFunc___scan_Spot_scan_Spot___scan_right_1_sk at h ⊢; have Ee0 := fun c w V (h : I0 c w V) => (⟨w, ⟨⟨rfl, rfl, rfl, rfl, trivial⟩, trivial⟩, h⟩ : ∃ x, slices_IndexFunc___scan_Spot_scan_Spot___scan_right_1_f0 p0 c w x ∧ I0 c x V); have Bb0 := fun c w V y U (h : I0 c w V ∧ J0 c w V < J0 c y U) => (⟨w, ⟨⟨rfl, rfl, rfl, rfl, trivial⟩, trivial⟩, h⟩ : ∃ x, slices_IndexFunc___scan_Spot_scan_Spot___scan_right_1_f0 p0 c w x ∧ I0 c x V ∧ J0 c x V < J0 c y U); exact ⟨(Ee0 _ _ _ h.1), fun x2 V1 h8 h9 => ⟨fun h7 => ⟨((h.2 x2 V1 h8 h9).1 h7).1, (match ((h.2 x2 V1 h8 h9).1 h7).2 with | ⟨x3, h5, h6, h4⟩ => ⟨x3, h5, h6, (CallV.mono h4 (fun _ _ _ ⟨r1, h3, h2⟩ => ⟨r1, h3, ⟨fun h1 => (h2.1 h1), fun h1 => (Bb0 _ _ _ _ _ (h2.2 h1))⟩⟩))⟩)⟩, fun h7 => ((h.2 x2 V1 h8 h9).2 h7)⟩⟩))

theorem slices_IndexFunc___scan_Spot_scan_Spot___scan_right_1_vc : type_of% (fun p0 p1 V R I0 J0 => slices_IndexFunc___scan_Spot_scan_Spot___scan_right_1_v0 p0 p1 V R I0 J0 (slices_IndexFunc___scan_Spot_scan_Spot___scan_right_1_sk.eq_1 ..)) := fun p0 p1 V R I0 J0 => slices_IndexFunc___scan_Spot_scan_Spot___scan_right_1_v0 p0 p1 V R I0 J0 (slices_IndexFunc___scan_Spot_scan_Spot___scan_right_1_sk.eq_1 ..)

theorem slices_ContainsFunc___scan_Spot_scan_Spot___scan_right_1_vc (p0 : Sl) (p1 : Fn0) (V : View) (R : Value → View → Prop) 
 (h :
 CallV Try.prog 121 #[p0.v, (Fn0.mk ).val 110] V fun v V1 => ∃ r1 : Int, v = .int .i64 r1 ∧
 R (.bool (decide ((r1 : Int) ≥ 0))) V1) :
 CallV Try.prog 109 #[p0.v, p1.val 110] V R :=
 calls_of_vc (Shp := Shp) hmixed Try.func109 (c := Try.f109.body.getD .skip) (args := [p0.v, p1.val 110]) (by kernel_rfl)
 (.seq (.reg [A 4 9]) (.seq (.reg [A 5 2, A 6 2, A 7 10, A 8 0, A 4 2]) .leaf))
 (Eq.mpr (by kernel_rfl) h)

theorem scan_right_vc (p0 : Sl) (V : View) (R : Value → View → Prop) 
 (h :
 CallV Try.prog 109 #[p0.v, .func (.func 110) #[] #[]] V fun v V1 => ∃ r1 : Bool, v = .bool r1 ∧
 R (.bool (!r1)) V1) :
 CallV Try.prog 86 #[p0.v] V R :=
 calls_of_vc (Shp := Shp) hmixed Try.func86 (c := Try.f86.body.getD .skip) (args := [p0.v]) (by kernel_rfl)
 (.seq (.reg [A 2 9]) (.seq (.reg [A 3 2, A 4 10, A 5 20, A 2 2]) .leaf))
 (Eq.mpr (by kernel_rfl) h)

theorem scan_Frame_right_vc (p0 : FrameV) (V : View) (R : Value → View → Prop) 
 (h :
 ∀ (b1 : Nat) (V1 : View), View.le V V1 → View.Fin V1 → V1 b1 = some #[.bool p0.o.x.re.neg, p0.o.x.re.mag.v, .bool p0.o.x.im.neg, p0.o.x.im.mag.v, p0.o.x.under.v, .bool p0.o.y.re.neg, p0.o.y.re.mag.v, .bool p0.o.y.im.neg, p0.o.y.im.mag.v, p0.o.y.under.v, .bool p0.o.z.re.neg, p0.o.z.re.mag.v, .bool p0.o.z.im.neg, p0.o.z.im.mag.v, p0.o.z.under.v, .bool p0.u.x.re.neg, p0.u.x.re.mag.v, .bool p0.u.x.im.neg, p0.u.x.im.mag.v, p0.u.x.under.v, .bool p0.u.y.re.neg, p0.u.y.re.mag.v, .bool p0.u.y.im.neg, p0.u.y.im.mag.v, p0.u.y.under.v, .bool p0.u.z.re.neg, p0.u.z.re.mag.v, .bool p0.u.z.im.neg, p0.u.z.im.mag.v, p0.u.z.under.v, .bool p0.v.x.re.neg, p0.v.x.re.mag.v, .bool p0.v.x.im.neg, p0.v.x.im.mag.v, p0.v.x.under.v, .bool p0.v.y.re.neg, p0.v.y.re.mag.v, .bool p0.v.y.im.neg, p0.v.y.im.mag.v, p0.v.y.under.v, .bool p0.v.z.re.neg, p0.v.z.re.mag.v, .bool p0.v.z.im.neg, p0.v.z.im.mag.v, p0.v.z.under.v] →
 CallV Try.prog 86 #[(Sl.mk (some (Addr.mk b1 0 none)) 3 3).v] V1 fun v V2 => ∃ r1 : Bool, v = .bool r1 ∧
 R (.bool r1) V2) :
 CallV Try.prog 91 #[p0.val] V R :=
 calls_of_vc (Shp := Shp) hmixed Try.func91 (c := Try.f91.body.getD .skip) (args := [p0.val]) (by kernel_rfl)
 (.seq (.reg [A 1 3, A 2 9]) (.seq (.reg [A 3 7, A 1 4, A 5 7, A 1 4, A 7 7, A 1 4, A 9 11, A 10 10, A 2 2]) .leaf))
 (Eq.mpr (by kernel_rfl) h)

theorem scan_dot_vc (p0 : SpotV) (p1 : SpotV) (V : View) (R : Value → View → Prop) 
 (h :
 CallV Try.prog 12 #[p0.x.val, p1.x.val] V fun v V1 => ∃ r1 : NumV, v = r1.val ∧
 CallV Try.prog 12 #[p0.y.val, p1.y.val] V1 fun v V2 => ∃ r2 : NumV, v = r2.val ∧
 CallV Try.prog 34 #[r1.val, r2.val] V2 fun v V3 => ∃ r3 : NumV, v = r3.val ∧
 CallV Try.prog 12 #[p0.z.val, p1.z.val] V3 fun v V4 => ∃ r4 : NumV, v = r4.val ∧
 CallV Try.prog 34 #[r3.val, r4.val] V4 fun v V5 => ∃ r5 : NumV, v = r5.val ∧
 R (r5.val) V5) :
 CallV Try.prog 92 #[p0.val, p1.val] V R :=
 calls_of_vc (Shp := Shp) hmixed Try.func92 (c := Try.f92.body.getD .skip) (args := [p0.val, p1.val]) (by kernel_rfl)
 (.seq (.reg [A 2 3, A 3 3, A 4 3]) (.seq (.draw [(0, A 5 7), (1, A 2 4), (2, A 7 7), (3, A 3 4), (5, A 10 7), (6, A 2 4), (7, A 12 7), (8, A 3 4), (11, A 16 7), (12, A 2 4), (13, A 18 7), (14, A 3 4), (4, A 9 10), (9, A 14 10), (10, A 15 10), (15, A 20 10), (16, A 21 10), (17, A 4 6)] [0, 1, 0, 4, 15, 0, 32, 0, 128, 511, 1023, 0, 2048, 0, 8192, 32767, 65535, 131071]) .leaf))
 (Eq.mpr (by kernel_rfl) h)

theorem scan_whole_vc (p0 : Int) (V : View) (R : Value → View → Prop) 
 (h :
 CallV Try.prog 13 #[.int .i64 p0] V fun v V1 => ∃ r1 : NumV, v = r1.val ∧
 R (r1.val) V1) :
 CallV Try.prog 87 #[.int .i64 p0] V R :=
 calls_of_vc (Shp := Shp) hmixed Try.func87 (c := Try.f87.body.getD .skip) (args := [.int .i64 p0]) (by kernel_rfl)
 (.seq (.reg [A 2 3]) (.seq (.reg [A 3 2, A 4 10, A 2 6]) .leaf))
 (Eq.mpr (by kernel_rfl) h)

end Go.Proofs.Ytefkpimcffofaaa
