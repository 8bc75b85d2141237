/- Part of the proof; it has the parts FRb0. -/
import Derived.Test.YtkibfmnkkiakoaaGreatGBx5
set_option maxRecDepth 100000
set_option maxHeartbeats 4000000
namespace Go.Proofs.YtkibfmnkkiakoaaGreat
open Go Go.Vc Go.Proofs
open Go.IntKind (i8 i16 i32 i64 u8 u16 u32 u64)

structure L_ref1_split_0 where
 t9 : Int
structure L_ref1_split_1 where
 t13 : Sl
 t14 : Sl
structure C_ref1_split_1 where
 t9 : Int
structure L_ref1_split_2 where
 t9 : Int
 t10 : Int
 t11 : Bool
 t13 : Sl
def ref1_split_f0 (p0 : Sl) (p1 : Sl) (p2 : Int) (_c : Unit) (w x : L_ref1_split_0) : Prop := (Q1 (.val (p0.v)) ∧ Q1 (.val (p1.v)) ∧ Q1 (.val (.int .i64 p2)) ∧ E2 (.val (.int .i64 w.t9)) (.val (.int .i64 x.t9)) ∧ True) ∧ (True)
def ref1_split_f1 (p2 : Int) (c : C_ref1_split_1) (w x : L_ref1_split_1) : Prop := (Q1 (.val (.int .i64 p2)) ∧ Q1 (.val (.int .i64 c.t9)) ∧ E2 (.val (w.t13.v)) (.val (x.t13.v)) ∧ E2 (.val (w.t14.v)) (.val (x.t14.v)) ∧ True) ∧ (True)
def ref1_split_f2 (p2 : Int) (_c : Unit) (w x : L_ref1_split_2) : Prop := (Q1 (.val (.int .i64 p2)) ∧ E2 (.val (.int .i64 w.t9)) (.val (.int .i64 x.t9)) ∧ E2 (.val (.int .u32 w.t10)) (.val (.int .u32 x.t10)) ∧ E2 (.val (.bool w.t11)) (.val (.bool x.t11)) ∧ E2 (.val (w.t13.v)) (.val (x.t13.v)) ∧ True) ∧ (True)
def ref1_split_sk (p0 : Sl) (p1 : Sl) (p2 : Int) (p3 : Int) (V : View) (R : Value → View → Prop) (I0 : Unit → L_ref1_split_0 → View → Prop) (I1 : C_ref1_split_1 → L_ref1_split_1 → View → Prop) (I2 : Unit → L_ref1_split_2 → View → Prop) (E0 : Unit → L_ref1_split_0 → View → Prop) (E1 : C_ref1_split_1 → L_ref1_split_1 → View → Prop) (E2 : Unit → L_ref1_split_2 → View → Prop) (B2 : Unit → L_ref1_split_2 → View → L_ref1_split_2 → View → Prop) : Prop :=
 CallV Tryz.prog 272 #[p0.v] V fun v V1 => ∃ r1 : Int, v = .int .i64 r1 ∧
 CallV Tryz.prog 272 #[p1.v] V1 fun v V2 => ∃ r2 : Int, v = .int .i64 r2 ∧
 (((decide (((i64.wrap ((i64.wrap ((i64.wrap (r1 - r2)) - p2)) - 1)) : Int) < (i64.wrap (p3 - 1)))) = true →
 E0 () (L_ref1_split_0.mk (i64.wrap (p3 - 1))) V2) ∧
 ((decide (((i64.wrap ((i64.wrap ((i64.wrap (r1 - r2)) - p2)) - 1)) : Int) < (i64.wrap (p3 - 1)))) = false →
 E0 () (L_ref1_split_0.mk (i64.wrap ((i64.wrap ((i64.wrap (r1 - r2)) - p2)) - 1))) V2)) ∧
 (∀ (x1 : L_ref1_split_0) (V3 : View), View.le V2 V3 → I0 () x1 V3 →
 (((decide ((x1.t9 : Int) ≥ 0)) = true →
 CallV Tryz.prog 264 #[p1.v, .int .i64 x1.t9] V3 fun v V5 => ∃ r3 : Sl, v = r3.v ∧
 CallV Tryz.prog 243 #[p0.v, r3.v] V5 fun v V6 => ∃ (r4 : Sl) (r5 : Sl), v = .tuple #[r4.v, r5.v] ∧
 E1 (C_ref1_split_1.mk x1.t9) (L_ref1_split_1.mk r4 r5) V6) ∧
 ((decide ((x1.t9 : Int) ≥ 0)) = false →
 CallV Tryz.prog 264 #[p0.v, .int .i64 (i64.wrap (0 - x1.t9))] V3 fun v V7 => ∃ r6 : Sl, v = r6.v ∧
 CallV Tryz.prog 243 #[r6.v, p1.v] V7 fun v V8 => ∃ (r7 : Sl) (r8 : Sl), v = .tuple #[r7.v, r8.v] ∧
 E1 (C_ref1_split_1.mk x1.t9) (L_ref1_split_1.mk r7 r8) V8)) ∧
 (∀ (x4 : L_ref1_split_1) (V4 : View), View.le V3 V4 → I1 (C_ref1_split_1.mk x1.t9) x4 V4 →
 CallV Tryz.prog 285 #[x4.t13.v, .int .i64 0] V4 fun v V9 => ∃ r9 : Int, v = .int .u32 r9 ∧
 CallV Tryz.prog 274 #[x4.t13.v, .int .i64 1] V9 fun v V10 => ∃ r10 : Sl, v = r10.v ∧
 E2 () (L_ref1_split_2.mk (i64.wrap (x1.t9 + 1)) r9 (decide (((x4.t14.len : Int) : Int) > 0)) r10) V10 ∧
 (∀ (x8 : L_ref1_split_2) (V11 : View), View.le V10 V11 → I2 () x8 V11 →
 CallV Tryz.prog 272 #[x8.t13.v] V11 fun v V12 => ∃ r11 : Int, v = .int .i64 r11 ∧
 ((decide ((r11 : Int) > p2)) = true →
 (x8.t11 = true →
 CallV Tryz.prog 285 #[x8.t13.v, .int .i64 0] V12 fun v V13 => ∃ r12 : Int, v = .int .u32 r12 ∧
 CallV Tryz.prog 274 #[x8.t13.v, .int .i64 1] V13 fun v V14 => ∃ r13 : Sl, v = r13.v ∧
 B2 () (L_ref1_split_2.mk (i64.wrap (x8.t9 + 1)) r12 true r13) V14 x8 V11) ∧
 (x8.t11 = false →
 CallV Tryz.prog 285 #[x8.t13.v, .int .i64 0] V12 fun v V15 => ∃ r14 : Int, v = .int .u32 r14 ∧
 CallV Tryz.prog 274 #[x8.t13.v, .int .i64 1] V15 fun v V16 => ∃ r15 : Sl, v = r15.v ∧
 B2 () (L_ref1_split_2.mk (i64.wrap (x8.t9 + 1)) r14 ((x8.t10 : Int) == 1) r15) V16 x8 V11)) ∧
 ((decide ((r11 : Int) > p2)) = false →
 R (.tuple #[x8.t13.v, .int .i64 x8.t9, .int .u32 x8.t10, .bool x8.t11]) V12))))

theorem ref1_split_v0 (p0 : Sl) (p1 : Sl) (p2 : Int) (p3 : Int) (V : View) (R : Value → View → Prop) (I0 : Unit → L_ref1_split_0 → View → Prop) (I1 : C_ref1_split_1 → L_ref1_split_1 → View → Prop) (I2 : Unit → L_ref1_split_2 → View → Prop) (J2 : Unit → L_ref1_split_2 → View → Nat) {X : Prop} (e : ref1_split_sk p0 p1 p2 p3 V R I0 I1 I2 I0 I1 I2 (fun c w V x U => I2 c w V ∧ J2 c w V < J2 c x U) = X) (h : X) :
 CallV Tryz.prog 271 #[p0.v, p1.v, .int .i64 p2, .int .i64 p3] V R :=
 calls_of_vc (Shp := Shp) hmixed Tryz.func271 (c := Tryz.f271.body.getD .skip) (args := [p0.v, p1.v, .int .i64 p2, .int .i64 p3]) (by kernel_rfl)
 (.seq (.reg [A 8 2, A 9 2, A 10 2, A 11 2]) (.seq (.reg [A 15 2, A 16 10, A 17 2, A 18 10, A 19 0, A 12 2]) (.seq (.reg [A 20 2, A 21 2, A 22 0, A 23 0, A 9 2]) (.cut Unit L_ref1_split_0 (fun _ => ()) (fun c x => { tm := spT 77 0 [(0, .val (p0.v)), (1, .val (p1.v)), (2, .val (.int .i64 p2)), (9, .val (.int .i64 x.t9))], own := spO 77 0 [] }) I0 (.seq (.reg [A 24 2, A 25 2, A 26 0, A 27 0]) (.cond (.reg [A 28 2, A 29 0, A 9 2]) .leaf)) (.seq (.reg [A 13 2, A 14 2]) (.cut C_ref1_split_1 L_ref1_split_1 (fun σ => C_ref1_split_1.mk (gInt (gTm σ 9))) (fun c x => { tm := spT 77 0 [(2, .val (.int .i64 p2)), (9, .val (.int .i64 c.t9)), (13, .val (x.t13.v)), (14, .val (x.t14.v))], own := spO 77 0 [] }) I1 (.seq (.reg [A 30 2, A 31 0]) (.cond (.reg [A 33 2, A 34 2, A 35 2, A 36 10, A 37 10, A 32 2, A 38 0, A 39 0, A 13 2, A 14 2]) (.reg [A 41 2, A 42 2, A 43 0, A 44 10, A 45 2, A 46 10, A 40 2, A 47 0, A 48 0, A 13 2, A 14 2]))) (.seq (.reg [A 49 2, A 50 0, A 51 0, A 11 2]) (.seq (.reg [A 52 2, A 53 10, A 10 2]) (.seq (.reg [A 54 2, A 55 10, A 56 2, A 57 0, A 13 2, A 9 2]) (.seq (.block (.loop Unit L_ref1_split_2 (fun _ => ()) (fun c x => { tm := spT 77 0 [(2, .val (.int .i64 p2)), (9, .val (.int .i64 x.t9)), (10, .val (.int .u32 x.t10)), (11, .val (.bool x.t11)), (13, .val (x.t13.v))], own := spO 77 0 [] }) I2 J2 (.seq (.seq (.reg [A 58 2, A 59 10, A 60 2, A 61 0]) (.cond .leaf .leaf)) (.block (.seq (.reg [A 62 2, ⟨63, 2, true⟩, A 64 2, A 65 0, A 66 2, A 11 2]) (.seq (.reg [A 67 2, A 68 10, A 10 2]) (.reg [A 69 2, A 70 10, A 71 2, A 72 0, A 13 2, A 9 2]))))))) (.seq (.reg [A 73 2, A 74 2, A 75 2, A 76 2, A 8 2, A 9 2, A 10 2, A 11 2]) .leaf)))))))))))
 (Eq.mpr (by kernel_rfl) (show ref1_split_sk p0 p1 p2 p3 V R I0 I1 I2 (fun c w V => ∃ x, ref1_split_f0 p0 p1 p2 c w x ∧ I0 c x V) (fun c w V => ∃ x, ref1_split_f1 p2 c w x ∧ I1 c x V) (fun c w V => ∃ x, ref1_split_f2 p2 c w x ∧ I2 c x V) (fun c w V y U => ∃ x, ref1_split_f2 p2 c w x ∧ I2 c x V ∧ J2 c x V < J2 c y U) from by
 have h := Eq.mpr e h; unfold ref1_split_sk at h ⊢; have Ee0 := fun c w V (h : I0 c w V) => (⟨w, ⟨⟨rfl, rfl, rfl, rfl, trivial⟩, trivial⟩, h⟩ : ∃ x, ref1_split_f0 p0 p1 p2 c w x ∧ I0 c x V); have Ee1 := fun c w V (h : I1 c w V) => (⟨w, ⟨⟨rfl, rfl, rfl, rfl, trivial⟩, trivial⟩, h⟩ : ∃ x, ref1_split_f1 p2 c w x ∧ I1 c x V); have Ee2 := fun c w V (h : I2 c w V) => (⟨w, ⟨⟨rfl, rfl, rfl, rfl, rfl, trivial⟩, trivial⟩, h⟩ : ∃ x, ref1_split_f2 p2 c w x ∧ I2 c x V); have Bb2 := fun c w V y U (h : I2 c w V ∧ J2 c w V < J2 c y U) => (⟨w, ⟨⟨rfl, rfl, rfl, rfl, rfl, trivial⟩, trivial⟩, h⟩ : ∃ x, ref1_split_f2 p2 c w x ∧ I2 c x V ∧ J2 c x V < J2 c y U); exact (CallV.mono h (fun _ _ _ ⟨r1, h36, h35⟩ => ⟨r1, h36, (CallV.mono h35 (fun _ _ _ ⟨r2, h34, h33⟩ => ⟨r2, h34, ⟨⟨fun h1 => (Ee0 _ _ _ (h33.1.1 h1)), fun h1 => (Ee0 _ _ _ (h33.1.2 h1))⟩, fun x1 V3 h31 h32 => ⟨⟨fun h10 => (CallV.mono ((h33.2 x1 V3 h31 h32).1.1 h10) (fun _ _ _ ⟨r3, h5, h4⟩ => ⟨r3, h5, (CallV.mono h4 (fun _ _ _ ⟨r4, r5, h3, h2⟩ => ⟨r4, r5, h3, (Ee1 _ _ _ h2)⟩))⟩)), fun h10 => (CallV.mono ((h33.2 x1 V3 h31 h32).1.2 h10) (fun _ _ _ ⟨r6, h9, h8⟩ => ⟨r6, h9, (CallV.mono h8 (fun _ _ _ ⟨r7, r8, h7, h6⟩ => ⟨r7, r8, h7, (Ee1 _ _ _ h6)⟩))⟩))⟩, fun x4 V4 h29 h30 => (CallV.mono ((h33.2 x1 V3 h31 h32).2 x4 V4 h29 h30) (fun _ _ _ ⟨r9, h28, h27⟩ => ⟨r9, h28, (CallV.mono h27 (fun _ _ _ ⟨r10, h26, h25⟩ => ⟨r10, h26, ⟨(Ee2 _ _ _ h25.1), fun x8 V11 h23 h24 => (CallV.mono (h25.2 x8 V11 h23 h24) (fun _ _ _ ⟨r11, h22, h21⟩ => ⟨r11, h22, ⟨fun h20 => ⟨fun h19 => (CallV.mono ((h21.1 h20).1 h19) (fun _ _ _ ⟨r12, h14, h13⟩ => ⟨r12, h14, (CallV.mono h13 (fun _ _ _ ⟨r13, h12, h11⟩ => ⟨r13, h12, (Bb2 _ _ _ _ _ h11)⟩))⟩)), fun h19 => (CallV.mono ((h21.1 h20).2 h19) (fun _ _ _ ⟨r14, h18, h17⟩ => ⟨r14, h18, (CallV.mono h17 (fun _ _ _ ⟨r15, h16, h15⟩ => ⟨r15, h16, (Bb2 _ _ _ _ _ h15)⟩))⟩))⟩, fun h20 => (h21.2 h20)⟩⟩))⟩⟩))⟩))⟩⟩⟩))⟩))))

theorem ref1_split_vc : type_of% (fun p0 p1 p2 p3 V R I0 I1 I2 J2 => ref1_split_v0 p0 p1 p2 p3 V R I0 I1 I2 J2 (ref1_split_sk.eq_1 ..)) := fun p0 p1 p2 p3 V R I0 I1 I2 J2 => ref1_split_v0 p0 p1 p2 p3 V R I0 I1 I2 J2 (ref1_split_sk.eq_1 ..)

end Go.Proofs.YtkibfmnkkiakoaaGreat
