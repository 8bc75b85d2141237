/- Part of the proof; it has the parts GRb2. -/
import Derived.Test.YtkibfmnkkiakoaaGreatGRb1
set_option maxRecDepth 100000
set_option maxHeartbeats 4000000
namespace Go.Proofs.YtkibfmnkkiakoaaGreat
open Go Go.Vc Go.Proofs
open Go.IntKind (i8 i16 i32 i64 u8 u16 u32 u64)

theorem ref2_at_vc (p0 : NumV) (V : View) (R : Value → View → Prop) 
 (h :
 R ((BdV.mk 0 p0).val) V) :
 CallV Tryz.prog 114 #[p0.val] V R :=
 calls_of_vc (Shp := Shp) hmixed Tryz.func114 (c := Tryz.f114.body.getD .skip) (args := [p0.val]) (by kernel_rfl)
 (.seq (.reg [A 1 3, A 2 3]) (.seq (.reg [A 1 4, A 4 0, A 2 6]) .leaf))
 (Eq.mpr (by kernel_rfl) h)

theorem ref2_of_vc (p0 : Nat) (V : View) (R : Value → View → Prop) 
 (h :
 CallV Tryz.prog 200 #[.float .f64 p0, .int .i64 1] V fun v V1 => ∃ r1 : Bool, v = .bool r1 ∧
 (r1 = true →
 CallV Tryz.prog 108 #[.int .i64 0] V1 fun v V2 => ∃ r2 : NumV, v = r2.val ∧
 R ((BdV.mk 1 r2).val) V2) ∧
 (r1 = false →
 CallV Tryz.prog 200 #[.float .f64 p0, .int .i64 (-1)] V1 fun v V3 => ∃ r3 : Bool, v = .bool r3 ∧
 (r3 = true →
 CallV Tryz.prog 108 #[.int .i64 0] V3 fun v V4 => ∃ r4 : NumV, v = r4.val ∧
 R ((BdV.mk (-1) r4).val) V4) ∧
 (r3 = false →
 CallV Tryz.prog 201 #[.float .f64 p0] V3 fun v V5 => ∃ (r5 : NumV) (r6 : Int), v = .tuple #[r5.val, .int .i64 r6] ∧
 CallV Tryz.prog 114 #[r5.val] V5 fun v V6 => ∃ r7 : BdV, v = r7.val ∧
 R (r7.val) V6))) :
 CallV Tryz.prog 119 #[.float .f64 p0] V R :=
 calls_of_vc (Shp := Shp) hmixed Tryz.func119 (c := Tryz.f119.body.getD .skip) (args := [.float .f64 p0]) (by kernel_rfl)
 (.seq (.reg [A 2 3]) (.seq (.seq (.reg [A 5 2, A 6 10]) (.cond (.seq (.reg [A 7 10, A 8 0, A 2 6]) .leaf) .leaf)) (.seq (.seq (.reg [A 9 2, A 10 10]) (.cond (.seq (.reg [A 11 10, A 12 0, A 2 6]) .leaf) .leaf)) (.seq (.reg [A 14 2, A 15 10, A 13 2, A 16 0, A 17 0, A 3 3, A 3 6, A 4 2]) (.seq (.reg [A 3 4, A 19 10, A 2 6]) .leaf)))))
 (Eq.mpr (by kernel_rfl) h)

theorem ref2_cmp_vc (p0 : BdV) (p1 : BdV) (V : View) (R : Value → View → Prop) 
 (h :
 (((p0.inf : Int) != p1.inf) = true →
 ((decide ((p0.inf : Int) < p1.inf)) = true →
 R (.int .i64 (-1)) V) ∧
 ((decide ((p0.inf : Int) < p1.inf)) = false →
 R (.int .i64 1) V)) ∧
 (((p0.inf : Int) != p1.inf) = false →
 (((p0.inf : Int) != 0) = true →
 R (.int .i64 0) V) ∧
 (((p0.inf : Int) != 0) = false →
 CallV Tryz.prog 199 #[p0.x.val, p1.x.val] V fun v V1 => ∃ r1 : Int, v = .int .i64 r1 ∧
 R (.int .i64 r1) V1))) :
 CallV Tryz.prog 118 #[p0.val, p1.val] V R :=
 calls_of_vc (Shp := Shp) hmixed Tryz.func118 (c := Tryz.f118.body.getD .skip) (args := [p0.val, p1.val]) (by kernel_rfl)
 (.seq (.reg [A 2 3, A 3 3, A 4 2]) (.seq (.seq (.reg [A 5 7, A 2 4, A 7 7, A 3 4, A 9 0]) (.cond (.seq (.seq (.reg [A 10 7, A 2 4, A 12 7, A 3 4, A 14 0]) (.cond (.seq (.reg [A 4 2]) .leaf) .leaf)) (.seq (.reg [A 4 2]) .leaf)) .leaf)) (.seq (.seq (.reg [A 15 7, A 2 4, A 17 0]) (.cond (.seq (.reg [A 4 2]) .leaf) .leaf)) (.seq (.reg [A 18 7, A 2 4, A 20 7, A 3 4, A 22 10, A 4 2]) .leaf))))
 (Eq.mpr (by kernel_rfl) h)

theorem ref2_sign_vc (p0 : BdV) (V : View) (R : Value → View → Prop) 
 (h :
 (((p0.inf : Int) != 0) = true →
 R (.int .i64 p0.inf) V) ∧
 (((p0.inf : Int) != 0) = false →
 CallV Tryz.prog 240 #[p0.x.val] V fun v V1 => ∃ r1 : Int, v = .int .i64 r1 ∧
 R (.int .i64 r1) V1)) :
 CallV Tryz.prog 251 #[p0.val] V R :=
 calls_of_vc (Shp := Shp) hmixed Tryz.func251 (c := Tryz.f251.body.getD .skip) (args := [p0.val]) (by kernel_rfl)
 (.seq (.reg [A 1 3, A 2 2]) (.seq (.seq (.reg [A 3 7, A 1 4, A 5 0]) (.cond (.seq (.reg [A 6 7, A 1 4, A 2 2]) .leaf) .leaf)) (.seq (.reg [A 8 7, A 1 4, A 10 10, A 2 2]) .leaf)))
 (Eq.mpr (by kernel_rfl) h)

theorem ref2_plus_vc (p0 : BdV) (p1 : BdV) (V : View) (R : Value → View → Prop) 
 (h :
 (((p0.inf : Int) != 0) = true →
 R (p0.val) V) ∧
 (((p0.inf : Int) != 0) = false →
 (((p1.inf : Int) != 0) = true →
 R (p1.val) V) ∧
 (((p1.inf : Int) != 0) = false →
 CallV Tryz.prog 204 #[p0.x.val, p1.x.val] V fun v V1 => ∃ r1 : NumV, v = r1.val ∧
 CallV Tryz.prog 114 #[r1.val] V1 fun v V2 => ∃ r2 : BdV, v = r2.val ∧
 R (r2.val) V2))) :
 CallV Tryz.prog 123 #[p0.val, p1.val] V R :=
 calls_of_vc (Shp := Shp) hmixed Tryz.func123 (c := Tryz.f123.body.getD .skip) (args := [p0.val, p1.val]) (by kernel_rfl)
 (.seq (.reg [A 2 3, A 3 3, A 4 3]) (.seq (.seq (.reg [A 5 7, A 2 4, A 7 0]) (.cond (.seq (.reg [A 2 4, A 4 6]) .leaf) .leaf)) (.seq (.seq (.reg [A 9 7, A 3 4, A 11 0]) (.cond (.seq (.reg [A 3 4, A 4 6]) .leaf) .leaf)) (.seq (.reg [A 13 7, A 2 4, A 15 7, A 3 4, A 17 10, A 18 10, A 4 6]) .leaf))))
 (Eq.mpr (by kernel_rfl) h)

theorem ref2_minus_vc (p0 : BdV) (V : View) (R : Value → View → Prop) 
 (h :
 CallV Tryz.prog 191 #[p0.x.val] V fun v V1 => ∃ r1 : NumV, v = r1.val ∧
 R ((BdV.mk (i64.wrap (0 - p0.inf)) r1).val) V1) :
 CallV Tryz.prog 107 #[p0.val] V R :=
 calls_of_vc (Shp := Shp) hmixed Tryz.func107 (c := Tryz.f107.body.getD .skip) (args := [p0.val]) (by kernel_rfl)
 (.seq (.reg [A 1 3, A 2 3]) (.seq (.draw [(0, A 3 7), (1, A 1 4), (2, A 5 0), (3, A 6 7), (4, A 1 4), (5, A 8 10), (6, A 9 0), (7, A 2 6)] [0, 1, 3, 0, 8, 24, 63, 127]) .leaf))
 (Eq.mpr (by kernel_rfl) h)

theorem ref2_times_vc (p0 : BdV) (p1 : BdV) (V : View) (R : Value → View → Prop) 
 (h :
 CallV Tryz.prog 251 #[p0.val] V fun v V1 => ∃ r1 : Int, v = .int .i64 r1 ∧
 (((r1 : Int) == 0) = true →
 CallV Tryz.prog 108 #[.int .i64 0] V1 fun v V2 => ∃ r2 : NumV, v = r2.val ∧
 CallV Tryz.prog 114 #[r2.val] V2 fun v V3 => ∃ r3 : BdV, v = r3.val ∧
 R (r3.val) V3) ∧
 (((r1 : Int) == 0) = false →
 CallV Tryz.prog 251 #[p1.val] V1 fun v V4 => ∃ r4 : Int, v = .int .i64 r4 ∧
 (((r4 : Int) == 0) = true →
 CallV Tryz.prog 108 #[.int .i64 0] V4 fun v V5 => ∃ r5 : NumV, v = r5.val ∧
 CallV Tryz.prog 114 #[r5.val] V5 fun v V6 => ∃ r6 : BdV, v = r6.val ∧
 R (r6.val) V6) ∧
 (((r4 : Int) == 0) = false →
 (((p0.inf : Int) != 0) = true →
 CallV Tryz.prog 251 #[p0.val] V4 fun v V7 => ∃ r7 : Int, v = .int .i64 r7 ∧
 CallV Tryz.prog 251 #[p1.val] V7 fun v V8 => ∃ r8 : Int, v = .int .i64 r8 ∧
 CallV Tryz.prog 108 #[.int .i64 0] V8 fun v V9 => ∃ r9 : NumV, v = r9.val ∧
 R ((BdV.mk (i64.wrap (r7 * r8)) r9).val) V9) ∧
 (((p0.inf : Int) != 0) = false →
 (((p1.inf : Int) != 0) = true →
 CallV Tryz.prog 251 #[p0.val] V4 fun v V10 => ∃ r10 : Int, v = .int .i64 r10 ∧
 CallV Tryz.prog 251 #[p1.val] V10 fun v V11 => ∃ r11 : Int, v = .int .i64 r11 ∧
 CallV Tryz.prog 108 #[.int .i64 0] V11 fun v V12 => ∃ r12 : NumV, v = r12.val ∧
 R ((BdV.mk (i64.wrap (r10 * r11)) r12).val) V12) ∧
 (((p1.inf : Int) != 0) = false →
 CallV Tryz.prog 234 #[p0.x.val, p1.x.val] V4 fun v V13 => ∃ r13 : NumV, v = r13.val ∧
 CallV Tryz.prog 114 #[r13.val] V13 fun v V14 => ∃ r14 : BdV, v = r14.val ∧
 R (r14.val) V14))))) :
 CallV Tryz.prog 205 #[p0.val, p1.val] V R :=
 calls_of_vc (Shp := Shp) hmixed Tryz.func205 (c := Tryz.f205.body.getD .skip) (args := [p0.val, p1.val]) (by kernel_rfl)
 (.seq (.reg [A 2 3, A 3 3, A 4 3]) (.seq (.seq (.reg [A 2 4, A 6 10, A 7 0, ⟨8, 2, true⟩, A 3 4, A 10 10, A 11 0, A 12 20]) (.cond (.seq (.reg [A 13 10, A 14 10, A 4 6]) .leaf) .leaf)) (.seq (.seq (.reg [A 15 7, A 2 4, A 17 0, ⟨18, 2, true⟩, A 19 7, A 3 4, A 21 0, A 22 20]) (.cond (.seq (.draw [(0, A 2 4), (2, A 3 4), (1, A 24 10), (3, A 26 10), (4, A 27 0), (5, A 28 10), (6, A 29 0), (7, A 4 6)] [0, 1, 0, 7, 15, 15, 63, 127]) .leaf) .leaf)) (.seq (.reg [A 30 7, A 2 4, A 32 7, A 3 4, A 34 10, A 35 10, A 4 6]) .leaf))))
 (Eq.mpr (by kernel_rfl) h)

structure L_ref2_least_0 where
 t4 : Int
 o2 : BdV
 o3 : BdV
def ref2_least_f0 (p0 : Sl) (_c : Unit) (w x : L_ref2_least_0) : Prop := (Q1 (.val (p0.v)) ∧ Q1 (.own 2 0) ∧ Q1 (.own 3 0) ∧ E2 (.val (.int .i64 w.t4)) (.val (.int .i64 x.t4)) ∧ True) ∧ (O2 ⟨145, .fixed [.val (.int .i64 w.o2.inf), .val (.bool w.o2.x.re.neg), .val (w.o2.x.re.mag.v), .val (.bool w.o2.x.im.neg), .val (w.o2.x.im.mag.v), .val (w.o2.x.under.v)]⟩ ⟨145, .fixed [.val (.int .i64 x.o2.inf), .val (.bool x.o2.x.re.neg), .val (x.o2.x.re.mag.v), .val (.bool x.o2.x.im.neg), .val (x.o2.x.im.mag.v), .val (x.o2.x.under.v)]⟩ ∧ O2 ⟨145, .fixed [.val (.int .i64 w.o3.inf), .val (.bool w.o3.x.re.neg), .val (w.o3.x.re.mag.v), .val (.bool w.o3.x.im.neg), .val (w.o3.x.im.mag.v), .val (w.o3.x.under.v)]⟩ ⟨145, .fixed [.val (.int .i64 x.o3.inf), .val (.bool x.o3.x.re.neg), .val (x.o3.x.re.mag.v), .val (.bool x.o3.x.im.neg), .val (x.o3.x.im.mag.v), .val (x.o3.x.under.v)]⟩ ∧ True)
def ref2_least_sk (p0 : Sl) (V : View) (R : Value → View → Prop) (I0 : Unit → L_ref2_least_0 → View → Prop) (E0 : Unit → L_ref2_least_0 → View → Prop) (B0 : Unit → L_ref2_least_0 → View → L_ref2_least_0 → View → Prop) : Prop :=
 ((0 : Int) ≤ 0 ∧ (0 : Int) < (p0.len : Nat) ∧ Option.isSome p0.a = true) ∧
 ∃ x1 : BdV, View.has V (Option.map (fun q => Addr.add q (Int.toNat 0 * 6)) p0.a) (x1.val).cells.toList ∧ Option.isSome (Option.map (fun q => Addr.add q (Int.toNat 0 * 6)) p0.a) = true ∧
 E0 () (L_ref2_least_0.mk 1 (BdV.mk 0 (NumV.mk (WhV.mk false (Sl.mk none 0 0)) (WhV.mk false (Sl.mk none 0 0)) (Sl.mk none 0 0))) x1) V ∧
 (∀ (x3 : L_ref2_least_0) (V1 : View), View.le V V1 → I0 () x3 V1 →
 ((decide ((x3.t4 : Int) < (p0.len : Int))) = true →
 ((0 : Int) ≤ x3.t4 ∧ (x3.t4 : Int) < (p0.len : Nat) ∧ Option.isSome p0.a = true) ∧
 ∃ x4 : BdV, View.has V1 (Option.map (fun q => Addr.add q (Int.toNat x3.t4 * 6)) p0.a) (x4.val).cells.toList ∧ Option.isSome (Option.map (fun q => Addr.add q (Int.toNat x3.t4 * 6)) p0.a) = true ∧
 CallV Tryz.prog 118 #[x4.val, x3.o3.val] V1 fun v V2 => ∃ r1 : Int, v = .int .i64 r1 ∧
 ((decide ((r1 : Int) < 0)) = true →
 ((0 : Int) ≤ x3.t4 ∧ (x3.t4 : Int) < (p0.len : Nat) ∧ Option.isSome p0.a = true) ∧
 ∃ x5 : BdV, View.has V2 (Option.map (fun q => Addr.add q (Int.toNat x3.t4 * 6)) p0.a) (x5.val).cells.toList ∧ Option.isSome (Option.map (fun q => Addr.add q (Int.toNat x3.t4 * 6)) p0.a) = true ∧
 B0 () (L_ref2_least_0.mk (i64.wrap (x3.t4 + 1)) x3.o2 x5) V2 x3 V1) ∧
 ((decide ((r1 : Int) < 0)) = false →
 B0 () (L_ref2_least_0.mk (i64.wrap (x3.t4 + 1)) x3.o2 x3.o3) V2 x3 V1)) ∧
 ((decide ((x3.t4 : Int) < (p0.len : Int))) = false →
 R (x3.o3.val) V1))

theorem ref2_least_v0 (p0 : Sl) (V : View) (R : Value → View → Prop) (I0 : Unit → L_ref2_least_0 → View → Prop) (J0 : Unit → L_ref2_least_0 → View → Nat) {X : Prop} (e : ref2_least_sk p0 V R I0 I0 (fun c w V x U => I0 c w V ∧ J0 c w V < J0 c x U) = X) (h : X) :
 CallV Tryz.prog 105 #[p0.v] V R :=
 calls_of_vc (Shp := Shp) hmixed Tryz.func105 (c := Tryz.f105.body.getD .skip) (args := [p0.v]) (by kernel_rfl)
 (.seq (.reg [A 2 3]) (.seq (.reg [A 5 2, A 6 7, A 7 5, A 3 3, A 3 6]) (.seq (.seq (.reg [A 4 2]) (.block (.loop Unit L_ref2_least_0 (fun _ => ()) (fun c x => { tm := spT 26 0 [(0, .val (p0.v)), (2, .own 2 0), (3, .own 3 0), (4, .val (.int .i64 x.t4))], own := spO 26 0 [(2, ⟨145, .fixed [.val (.int .i64 x.o2.inf), .val (.bool x.o2.x.re.neg), .val (x.o2.x.re.mag.v), .val (.bool x.o2.x.im.neg), .val (x.o2.x.im.mag.v), .val (x.o2.x.under.v)]⟩), (3, ⟨145, .fixed [.val (.int .i64 x.o3.inf), .val (.bool x.o3.x.re.neg), .val (x.o3.x.re.mag.v), .val (.bool x.o3.x.im.neg), .val (x.o3.x.im.mag.v), .val (x.o3.x.under.v)]⟩)] }) I0 J0 (.seq (.seq (.reg [A 8 2, A 9 2, A 10 0, A 11 0]) (.cond .leaf .leaf)) (.seq (.block (.seq (.draw [(0, A 14 2), (1, A 15 2), (2, A 16 7), (3, A 17 5), (4, A 3 4), (5, A 19 10), (6, A 20 0)] [0, 0, 3, 7, 0, 31, 63]) (.cond (.reg [A 21 2, A 22 2, A 23 7, A 24 5, A 3 6]) .leaf))) (.reg [A 12 2, A 13 0, A 4 2])))))) (.seq (.reg [A 3 4, A 2 6]) .leaf))))
 (Eq.mpr (by kernel_rfl) (show ref2_least_sk p0 V R I0 (fun c w V => ∃ x, ref2_least_f0 p0 c w x ∧ I0 c x V) (fun c w V y U => ∃ x, ref2_least_f0 p0 c w x ∧ I0 c x V ∧ J0 c x V < J0 c y U) from by
 have h := Eq.mpr e h; unfold ref2_least_sk at h ⊢; have Ee0 := fun c w V (h : I0 c w V) => (⟨w, ⟨⟨rfl, rfl, rfl, rfl, trivial⟩, ⟨rfl, rfl, trivial⟩⟩, h⟩ : ∃ x, ref2_least_f0 p0 c w x ∧ I0 c x V); have Bb0 := fun c w V y U (h : I0 c w V ∧ J0 c w V < J0 c y U) => (⟨w, ⟨⟨rfl, rfl, rfl, rfl, trivial⟩, ⟨rfl, rfl, trivial⟩⟩, h⟩ : ∃ x, ref2_least_f0 p0 c w x ∧ I0 c x V ∧ J0 c x V < J0 c y U); exact ⟨h.1, (match h.2 with | ⟨x1, h14, h15, h13⟩ => ⟨x1, h14, h15, ⟨(Ee0 _ _ _ h13.1), fun x3 V1 h11 h12 => ⟨fun h10 => ⟨((h13.2 x3 V1 h11 h12).1 h10).1, (match ((h13.2 x3 V1 h11 h12).1 h10).2 with | ⟨x4, h8, h9, h7⟩ => ⟨x4, h8, h9, (CallV.mono h7 (fun _ _ _ ⟨r1, h6, h5⟩ => ⟨r1, h6, ⟨fun h4 => ⟨(h5.1 h4).1, (match (h5.1 h4).2 with | ⟨x5, h2, h3, h1⟩ => ⟨x5, h2, h3, (Bb0 _ _ _ _ _ h1)⟩)⟩, fun h4 => (Bb0 _ _ _ _ _ (h5.2 h4))⟩⟩))⟩)⟩, fun h10 => ((h13.2 x3 V1 h11 h12).2 h10)⟩⟩⟩)⟩))

theorem ref2_least_vc : type_of% (fun p0 V R I0 J0 => ref2_least_v0 p0 V R I0 J0 (ref2_least_sk.eq_1 ..)) := fun p0 V R I0 J0 => ref2_least_v0 p0 V R I0 J0 (ref2_least_sk.eq_1 ..)

structure L_ref2_greatest_0 where
 t4 : Int
 o2 : BdV
 o3 : BdV
def ref2_greatest_f0 (p0 : Sl) (_c : Unit) (w x : L_ref2_greatest_0) : Prop := (Q1 (.val (p0.v)) ∧ Q1 (.own 2 0) ∧ Q1 (.own 3 0) ∧ E2 (.val (.int .i64 w.t4)) (.val (.int .i64 x.t4)) ∧ True) ∧ (O2 ⟨145, .fixed [.val (.int .i64 w.o2.inf), .val (.bool w.o2.x.re.neg), .val (w.o2.x.re.mag.v), .val (.bool w.o2.x.im.neg), .val (w.o2.x.im.mag.v), .val (w.o2.x.under.v)]⟩ ⟨145, .fixed [.val (.int .i64 x.o2.inf), .val (.bool x.o2.x.re.neg), .val (x.o2.x.re.mag.v), .val (.bool x.o2.x.im.neg), .val (x.o2.x.im.mag.v), .val (x.o2.x.under.v)]⟩ ∧ O2 ⟨145, .fixed [.val (.int .i64 w.o3.inf), .val (.bool w.o3.x.re.neg), .val (w.o3.x.re.mag.v), .val (.bool w.o3.x.im.neg), .val (w.o3.x.im.mag.v), .val (w.o3.x.under.v)]⟩ ⟨145, .fixed [.val (.int .i64 x.o3.inf), .val (.bool x.o3.x.re.neg), .val (x.o3.x.re.mag.v), .val (.bool x.o3.x.im.neg), .val (x.o3.x.im.mag.v), .val (x.o3.x.under.v)]⟩ ∧ True)
def ref2_greatest_sk (p0 : Sl) (V : View) (R : Value → View → Prop) (I0 : Unit → L_ref2_greatest_0 → View → Prop) (E0 : Unit → L_ref2_greatest_0 → View → Prop) (B0 : Unit → L_ref2_greatest_0 → View → L_ref2_greatest_0 → View → Prop) : Prop :=
 ((0 : Int) ≤ 0 ∧ (0 : Int) < (p0.len : Nat) ∧ Option.isSome p0.a = true) ∧
 ∃ x1 : BdV, View.has V (Option.map (fun q => Addr.add q (Int.toNat 0 * 6)) p0.a) (x1.val).cells.toList ∧ Option.isSome (Option.map (fun q => Addr.add q (Int.toNat 0 * 6)) p0.a) = true ∧
 E0 () (L_ref2_greatest_0.mk 1 (BdV.mk 0 (NumV.mk (WhV.mk false (Sl.mk none 0 0)) (WhV.mk false (Sl.mk none 0 0)) (Sl.mk none 0 0))) x1) V ∧
 (∀ (x3 : L_ref2_greatest_0) (V1 : View), View.le V V1 → I0 () x3 V1 →
 ((decide ((x3.t4 : Int) < (p0.len : Int))) = true →
 ((0 : Int) ≤ x3.t4 ∧ (x3.t4 : Int) < (p0.len : Nat) ∧ Option.isSome p0.a = true) ∧
 ∃ x4 : BdV, View.has V1 (Option.map (fun q => Addr.add q (Int.toNat x3.t4 * 6)) p0.a) (x4.val).cells.toList ∧ Option.isSome (Option.map (fun q => Addr.add q (Int.toNat x3.t4 * 6)) p0.a) = true ∧
 CallV Tryz.prog 118 #[x4.val, x3.o3.val] V1 fun v V2 => ∃ r1 : Int, v = .int .i64 r1 ∧
 ((decide ((r1 : Int) > 0)) = true →
 ((0 : Int) ≤ x3.t4 ∧ (x3.t4 : Int) < (p0.len : Nat) ∧ Option.isSome p0.a = true) ∧
 ∃ x5 : BdV, View.has V2 (Option.map (fun q => Addr.add q (Int.toNat x3.t4 * 6)) p0.a) (x5.val).cells.toList ∧ Option.isSome (Option.map (fun q => Addr.add q (Int.toNat x3.t4 * 6)) p0.a) = true ∧
 B0 () (L_ref2_greatest_0.mk (i64.wrap (x3.t4 + 1)) x3.o2 x5) V2 x3 V1) ∧
 ((decide ((r1 : Int) > 0)) = false →
 B0 () (L_ref2_greatest_0.mk (i64.wrap (x3.t4 + 1)) x3.o2 x3.o3) V2 x3 V1)) ∧
 ((decide ((x3.t4 : Int) < (p0.len : Int))) = false →
 R (x3.o3.val) V1))

theorem ref2_greatest_v0 (p0 : Sl) (V : View) (R : Value → View → Prop) (I0 : Unit → L_ref2_greatest_0 → View → Prop) (J0 : Unit → L_ref2_greatest_0 → View → Nat) {X : Prop} (e : ref2_greatest_sk p0 V R I0 I0 (fun c w V x U => I0 c w V ∧ J0 c w V < J0 c x U) = X) (h : X) :
 CallV Tryz.prog 106 #[p0.v] V R :=
 calls_of_vc (Shp := Shp) hmixed Tryz.func106 (c := Tryz.f106.body.getD .skip) (args := [p0.v]) (by kernel_rfl)
 (.seq (.reg [A 2 3]) (.seq (.reg [A 5 2, A 6 7, A 7 5, A 3 3, A 3 6]) (.seq (.seq (.reg [A 4 2]) (.block (.loop Unit L_ref2_greatest_0 (fun _ => ()) (fun c x => { tm := spT 26 0 [(0, .val (p0.v)), (2, .own 2 0), (3, .own 3 0), (4, .val (.int .i64 x.t4))], own := spO 26 0 [(2, ⟨145, .fixed [.val (.int .i64 x.o2.inf), .val (.bool x.o2.x.re.neg), .val (x.o2.x.re.mag.v), .val (.bool x.o2.x.im.neg), .val (x.o2.x.im.mag.v), .val (x.o2.x.under.v)]⟩), (3, ⟨145, .fixed [.val (.int .i64 x.o3.inf), .val (.bool x.o3.x.re.neg), .val (x.o3.x.re.mag.v), .val (.bool x.o3.x.im.neg), .val (x.o3.x.im.mag.v), .val (x.o3.x.under.v)]⟩)] }) I0 J0 (.seq (.seq (.reg [A 8 2, A 9 2, A 10 0, A 11 0]) (.cond .leaf .leaf)) (.seq (.block (.seq (.draw [(0, A 14 2), (1, A 15 2), (2, A 16 7), (3, A 17 5), (4, A 3 4), (5, A 19 10), (6, A 20 0)] [0, 0, 3, 7, 0, 31, 63]) (.cond (.reg [A 21 2, A 22 2, A 23 7, A 24 5, A 3 6]) .leaf))) (.reg [A 12 2, A 13 0, A 4 2])))))) (.seq (.reg [A 3 4, A 2 6]) .leaf))))
 (Eq.mpr (by kernel_rfl) (show ref2_greatest_sk p0 V R I0 (fun c w V => ∃ x, ref2_greatest_f0 p0 c w x ∧ I0 c x V) (fun c w V y U => ∃ x, ref2_greatest_f0 p0 c w x ∧ I0 c x V ∧ J0 c x V < J0 c y U) from by
 have h := Eq.mpr e h; unfold ref2_greatest_sk at h ⊢; have Ee0 := fun c w V (h : I0 c w V) => (⟨w, ⟨⟨rfl, rfl, rfl, rfl, trivial⟩, ⟨rfl, rfl, trivial⟩⟩, h⟩ : ∃ x, ref2_greatest_f0 p0 c w x ∧ I0 c x V); have Bb0 := fun c w V y U (h : I0 c w V ∧ J0 c w V < J0 c y U) => (⟨w, ⟨⟨rfl, rfl, rfl, rfl, trivial⟩, ⟨rfl, rfl, trivial⟩⟩, h⟩ : ∃ x, ref2_greatest_f0 p0 c w x ∧ I0 c x V ∧ J0 c x V < J0 c y U); exact ⟨h.1, (match h.2 with | ⟨x1, h14, h15, h13⟩ => ⟨x1, h14, h15, ⟨(Ee0 _ _ _ h13.1), fun x3 V1 h11 h12 => ⟨fun h10 => ⟨((h13.2 x3 V1 h11 h12).1 h10).1, (match ((h13.2 x3 V1 h11 h12).1 h10).2 with | ⟨x4, h8, h9, h7⟩ => ⟨x4, h8, h9, (CallV.mono h7 (fun _ _ _ ⟨r1, h6, h5⟩ => ⟨r1, h6, ⟨fun h4 => ⟨(h5.1 h4).1, (match (h5.1 h4).2 with | ⟨x5, h2, h3, h1⟩ => ⟨x5, h2, h3, (Bb0 _ _ _ _ _ h1)⟩)⟩, fun h4 => (Bb0 _ _ _ _ _ (h5.2 h4))⟩⟩))⟩)⟩, fun h10 => ((h13.2 x3 V1 h11 h12).2 h10)⟩⟩⟩)⟩))

theorem ref2_greatest_vc : type_of% (fun p0 V R I0 J0 => ref2_greatest_v0 p0 V R I0 J0 (ref2_greatest_sk.eq_1 ..)) := fun p0 V R I0 J0 => ref2_greatest_v0 p0 V R I0 J0 (ref2_greatest_sk.eq_1 ..)

theorem ref2_tight_vc (p0 : BdV) (p1 : BdV) (V : View) (R : Value → View → Prop) 
 (h :
 CallV Tryz.prog 159 #[.int .i64 (-1)] V fun v V1 => ∃ r1 : Nat, v = .float .f64 r1 ∧
 CallV Tryz.prog 159 #[.int .i64 1] V1 fun v V2 => ∃ r2 : Nat, v = .float .f64 r2 ∧
 (((p0.inf : Int) == 0) = true →
 CallV Tryz.prog 189 #[p0.x.val] V2 fun v V3 => ∃ r3 : Nat, v = .float .f64 r3 ∧
 (((p1.inf : Int) == 0) = true →
 CallV Tryz.prog 190 #[p1.x.val] V3 fun v V4 => ∃ r4 : Nat, v = .float .f64 r4 ∧
 R ((SpV.mk r3 r4).val) V4) ∧
 (((p1.inf : Int) == 0) = false →
 R ((SpV.mk r3 r2).val) V3)) ∧
 (((p0.inf : Int) == 0) = false →
 (((p1.inf : Int) == 0) = true →
 CallV Tryz.prog 190 #[p1.x.val] V2 fun v V5 => ∃ r5 : Nat, v = .float .f64 r5 ∧
 R ((SpV.mk r1 r5).val) V5) ∧
 (((p1.inf : Int) == 0) = false →
 R ((SpV.mk r1 r2).val) V2))) :
 CallV Tryz.prog 104 #[p0.val, p1.val] V R :=
 calls_of_vc (Shp := Shp) hmixed Tryz.func104 (c := Tryz.f104.body.getD .skip) (args := [p0.val, p1.val]) (by kernel_rfl)
 (.seq (.reg [A 2 3, A 3 3, A 4 3]) (.seq (.reg [A 6 10, A 7 10, A 8 0, A 5 3, A 5 6]) (.seq (.seq (.reg [A 9 7, A 2 4, A 11 0]) (.cond (.reg [A 12 7, A 2 4, A 14 10, A 15 7, A 5 6]) .leaf)) (.seq (.seq (.reg [A 16 7, A 3 4, A 18 0]) (.cond (.reg [A 19 7, A 3 4, A 21 10, A 22 7, A 5 6]) .leaf)) (.seq (.reg [A 5 4, A 4 6]) .leaf)))))
 (Eq.mpr (by kernel_rfl) h)

theorem ref2_corners_vc (p0 : BdV) (p1 : BdV) (p2 : BdV) (p3 : BdV) (V : View) (R : Value → View → Prop) 
 (h :
 CallV Tryz.prog 205 #[p0.val, p2.val] V fun v V1 => ∃ r1 : BdV, v = r1.val ∧
 CallV Tryz.prog 205 #[p0.val, p3.val] V1 fun v V2 => ∃ r2 : BdV, v = r2.val ∧
 CallV Tryz.prog 205 #[p1.val, p2.val] V2 fun v V3 => ∃ r3 : BdV, v = r3.val ∧
 CallV Tryz.prog 205 #[p1.val, p3.val] V3 fun v V4 => ∃ r4 : BdV, v = r4.val ∧
 ∀ (b1 : Nat) (V5 : View), View.le V4 V5 → View.Fin V5 → V5 b1 = some #[.int .i64 r1.inf, .bool r1.x.re.neg, r1.x.re.mag.v, .bool r1.x.im.neg, r1.x.im.mag.v, r1.x.under.v, .int .i64 r2.inf, .bool r2.x.re.neg, r2.x.re.mag.v, .bool r2.x.im.neg, r2.x.im.mag.v, r2.x.under.v, .int .i64 r3.inf, .bool r3.x.re.neg, r3.x.re.mag.v, .bool r3.x.im.neg, r3.x.im.mag.v, r3.x.under.v, .int .i64 r4.inf, .bool r4.x.re.neg, r4.x.re.mag.v, .bool r4.x.im.neg, r4.x.im.mag.v, r4.x.under.v] →
 R ((Sl.mk (some (Addr.mk b1 0 none)) 4 4).v) V5) :
 CallV Tryz.prog 156 #[p0.val, p1.val, p2.val, p3.val] V R :=
 calls_of_vc (Shp := Shp) hmixed Tryz.func156 (c := Tryz.f156.body.getD .skip) (args := [p0.val, p1.val, p2.val, p3.val]) (by kernel_rfl)
 (.seq (.reg [A 4 3, A 5 3, A 6 3, A 7 3, A 8 2]) (.seq (.draw [(0, A 4 4), (1, A 6 4), (3, A 4 4), (4, A 7 4), (6, A 5 4), (7, A 6 4), (9, A 5 4), (10, A 7 4), (2, A 11 10), (5, A 14 10), (8, A 17 10), (11, A 20 10), (12, A 21 11), (13, A 8 2)] [0, 0, 3, 0, 0, 31, 0, 0, 255, 0, 0, 2047, 4095, 8191]) .leaf))
 (Eq.mpr (by kernel_rfl) h)

theorem ref2_products_vc (p0 : SpV) (p1 : SpV) (V : View) (R : Value → View → Prop) 
 (h :
 CallV Tryz.prog 119 #[.float .f64 p0.lo] V fun v V1 => ∃ r1 : BdV, v = r1.val ∧
 CallV Tryz.prog 119 #[.float .f64 p0.hi] V1 fun v V2 => ∃ r2 : BdV, v = r2.val ∧
 CallV Tryz.prog 119 #[.float .f64 p1.lo] V2 fun v V3 => ∃ r3 : BdV, v = r3.val ∧
 CallV Tryz.prog 119 #[.float .f64 p1.hi] V3 fun v V4 => ∃ r4 : BdV, v = r4.val ∧
 CallV Tryz.prog 156 #[r1.val, r2.val, r3.val, r4.val] V4 fun v V5 => ∃ r5 : Sl, v = r5.v ∧
 R (r5.v) V5) :
 CallV Tryz.prog 122 #[p0.val, p1.val] V R :=
 calls_of_vc (Shp := Shp) hmixed Tryz.func122 (c := Tryz.f122.body.getD .skip) (args := [p0.val, p1.val]) (by kernel_rfl)
 (.seq (.reg [A 2 3, A 3 3, A 4 2]) (.seq (.draw [(0, A 5 7), (1, A 2 4), (3, A 8 7), (4, A 2 4), (6, A 11 7), (7, A 3 4), (9, A 14 7), (10, A 3 4), (2, A 7 10), (5, A 10 10), (8, A 13 10), (11, A 16 10), (12, A 17 10), (13, A 4 2)] [0, 1, 3, 0, 8, 31, 0, 64, 255, 0, 512, 2047, 4095, 8191]) .leaf))
 (Eq.mpr (by kernel_rfl) h)

end Go.Proofs.YtkibfmnkkiakoaaGreat
