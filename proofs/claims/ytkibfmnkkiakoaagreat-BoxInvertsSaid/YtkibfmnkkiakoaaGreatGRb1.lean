/- Part of the proof; it has the parts GRb1. -/
import Derived.Test.YtkibfmnkkiakoaaGreatFRb0
set_option maxRecDepth 100000
set_option maxHeartbeats 4000000
namespace Go.Proofs.YtkibfmnkkiakoaaGreat
open Go Go.Vc Go.Proofs
open Go.IntKind (i8 i16 i32 i64 u8 u16 u32 u64)

theorem ref1_NatBit_vc (p0 : Sl) (p1 : Int) (V : View) (R : Value → View → Prop) 
 (h :
 ((decide ((p1 : Int) < 0)) = true →
 R (.int .u32 0) V) ∧
 ((decide ((p1 : Int) < 0)) = false →
 ((decide (((i64.wrap (Int.tdiv p1 32)) : Int) ≥ (p0.len : Int))) = true →
 R (.int .u32 0) V) ∧
 ((decide (((i64.wrap (Int.tdiv p1 32)) : Int) ≥ (p0.len : Int))) = false →
 ((0 : Int) ≤ (i64.wrap (Int.tdiv p1 32)) ∧ ((i64.wrap (Int.tdiv p1 32)) : Int) < (p0.len : Nat) ∧ Option.isSome p0.a = true) ∧
 ∃ x1 : Int, View.load V (Option.map (fun q => Addr.add q (Int.toNat (i64.wrap (Int.tdiv p1 32)) * 1)) p0.a) = some (.int .u32 x1) ∧
 (0 : Int) ≤ (u64.wrap (Int.tmod p1 32)) ∧
 R (.int .u32 (u32.wrap (BitVec.toNat ((BitVec.ofInt u32.bits (Int.fdiv x1 (2 ^ (min (Int.toNat (u64.wrap (Int.tmod p1 32))) (IntKind.bits .u32))))) &&& (BitVec.ofInt u32.bits 1))))) V))) :
 CallV Tryz.prog 285 #[p0.v, .int .i64 p1] V R :=
 calls_of_vc (Shp := Shp) hmixed Tryz.func285 (c := Tryz.f285.body.getD .skip) (args := [p0.v, .int .i64 p1]) (by kernel_rfl)
 (.seq (.reg [A 4 2]) (.seq (.seq (.reg [A 5 2, A 6 0, ⟨7, 2, true⟩, A 8 2, A 9 0, A 10 2, A 11 0, A 12 0, A 13 20]) (.cond (.seq (.reg [A 4 2]) .leaf) .leaf)) (.seq (.reg [A 14 2, A 15 2, A 16 0, A 17 7, A 18 5, A 19 2, A 20 0, A 21 0, A 22 12, A 23 0, A 4 2]) .leaf)))
 (Eq.mpr (by kernel_rfl) h)

theorem ref1_Im_vc (p0 : NumV) (V : View) (R : Value → View → Prop) 
 (h :
 CallV Tryz.prog 196 #[p0.im.val, (WhV.mk false (Sl.mk none 0 0)).val, p0.under.v] V fun v V1 => ∃ r1 : NumV, v = r1.val ∧
 R (r1.val) V1) :
 CallV Tryz.prog 131 #[p0.val] V R :=
 calls_of_vc (Shp := Shp) hmixed Tryz.func131 (c := Tryz.f131.body.getD .skip) (args := [p0.val]) (by kernel_rfl)
 (.seq (.reg [A 1 3, A 2 3]) (.seq (.reg [A 3 7, A 1 4, A 5 0, A 6 7, A 1 4, A 8 10, A 2 6]) .leaf))
 (Eq.mpr (by kernel_rfl) h)

theorem ref1_Cmp_vc (p0 : NumV) (p1 : NumV) (V : View) (R : Value → View → Prop) 
 (h :
 CallV Tryz.prog 235 #[p0.val, p1.val] V fun v V1 => ∃ r1 : NumV, v = r1.val ∧
 CallV Tryz.prog 240 #[r1.val] V1 fun v V2 => ∃ r2 : Int, v = .int .i64 r2 ∧
 (((r2 : Int) != 0) = true →
 R (.int .i64 r2) V2) ∧
 (((r2 : Int) != 0) = false →
 CallV Tryz.prog 131 #[r1.val] V2 fun v V3 => ∃ r3 : NumV, v = r3.val ∧
 CallV Tryz.prog 240 #[r3.val] V3 fun v V4 => ∃ r4 : Int, v = .int .i64 r4 ∧
 R (.int .i64 r4) V4)) :
 CallV Tryz.prog 199 #[p0.val, p1.val] V R :=
 calls_of_vc (Shp := Shp) hmixed Tryz.func199 (c := Tryz.f199.body.getD .skip) (args := [p0.val, p1.val]) (by kernel_rfl)
 (.seq (.reg [A 2 3, A 3 3, A 4 2]) (.seq (.reg [A 2 4, A 3 4, A 9 10, A 5 3, A 5 6]) (.seq (.seq (.reg [A 5 4, A 11 10, A 6 2]) (.seq (.reg [A 12 2, A 13 0]) (.cond (.seq (.reg [A 14 2, A 4 2]) .leaf) .leaf))) (.seq (.reg [A 5 4, A 16 10, A 17 10, A 4 2]) .leaf))))
 (Eq.mpr (by kernel_rfl) h)

structure L_ref1_float_0 where
 t5 : Int
 t6 : Int
structure L_ref1_float_1 where
 t1 : Int
 t5 : Int
def ref1_float_f0 (p0 : Sl) (p1 : Int) (_c : Unit) (w x : L_ref1_float_0) : Prop := (Q1 (.val (p0.v)) ∧ Q1 (.val (.int .i64 p1)) ∧ E2 (.val (.int .u64 w.t5)) (.val (.int .u64 x.t5)) ∧ E2 (.val (.int .i64 w.t6)) (.val (.int .i64 x.t6)) ∧ True) ∧ (True)
def ref1_float_f1  (_c : Unit) (w x : L_ref1_float_1) : Prop := (E2 (.val (.int .i64 w.t1)) (.val (.int .i64 x.t1)) ∧ E2 (.val (.int .u64 w.t5)) (.val (.int .u64 x.t5)) ∧ True) ∧ (True)
def ref1_float_sk (p0 : Sl) (p1 : Int) (V : View) (R : Value → View → Prop) (I0 : Unit → L_ref1_float_0 → View → Prop) (I1 : Unit → L_ref1_float_1 → View → Prop) (E0 : Unit → L_ref1_float_0 → View → Prop) (B0 : Unit → L_ref1_float_0 → View → L_ref1_float_0 → View → Prop) (E1 : Unit → L_ref1_float_1 → View → Prop) (B1 : Unit → L_ref1_float_1 → View → L_ref1_float_1 → View → Prop) : Prop :=
 ((((p0.len : Int) : Int) == 0) = true →
 R (.float .f64 0) V) ∧
 ((((p0.len : Int) : Int) == 0) = false →
 E0 () (L_ref1_float_0.mk 0 (i64.wrap ((p0.len : Int) - 1))) V ∧
 (∀ (x2 : L_ref1_float_0) (V1 : View), View.le V V1 → I0 () x2 V1 →
 ((decide ((x2.t6 : Int) ≥ 0)) = true →
 ((0 : Int) ≤ x2.t6 ∧ (x2.t6 : Int) < (p0.len : Nat) ∧ Option.isSome p0.a = true) ∧
 ∃ x3 : Int, View.load V1 (Option.map (fun q => Addr.add q (Int.toNat x2.t6 * 1)) p0.a) = some (.int .u32 x3) ∧
 B0 () (L_ref1_float_0.mk (u64.wrap (BitVec.toNat ((BitVec.ofInt u64.bits (u64.wrap (x2.t5 * 2 ^ (min (Int.toNat 32) (u64.bits))))) ||| (BitVec.ofInt u64.bits (u64.wrap x3))))) (i64.wrap (x2.t6 - 1))) V1 x2 V1) ∧
 ((decide ((x2.t6 : Int) ≥ 0)) = false →
 E1 () (L_ref1_float_1.mk p1 x2.t5) V1 ∧
 (∀ (x6 : L_ref1_float_1) (V2 : View), View.le V1 V2 → I1 () x6 V2 →
 ((decide ((x6.t5 : Int) < 4503599627370496)) = true →
 ((decide ((x6.t1 : Int) > (-1074))) = true →
 B1 () (L_ref1_float_1.mk (i64.wrap (x6.t1 - 1)) (u64.wrap (x6.t5 * 2 ^ (min (Int.toNat 1) (u64.bits))))) V2 x6 V2) ∧
 ((decide ((x6.t1 : Int) > (-1074))) = false →
 ((decide ((x6.t5 : Int) < 4503599627370496)) = true →
 ∃ e1 : Nat, ExtVal Tryz.prog 221 #[.int .u64 x6.t5] (.float .f64 e1) ∧
 R (.float .f64 e1) V2) ∧
 ((decide ((x6.t5 : Int) < 4503599627370496)) = false →
 ((decide (((i64.wrap (x6.t1 + 1075)) : Int) > 2046)) = true →
 CallV Tryz.prog 159 #[.int .i64 1] V2 fun v V3 => ∃ r1 : Nat, v = .float .f64 r1 ∧
 R (.float .f64 r1) V3) ∧
 ((decide (((i64.wrap (x6.t1 + 1075)) : Int) > 2046)) = false →
 ∃ e2 : Nat, ExtVal Tryz.prog 221 #[.int .u64 (u64.wrap (BitVec.toNat ((BitVec.ofInt u64.bits (u64.wrap ((u64.wrap (i64.wrap (x6.t1 + 1075))) * 2 ^ (min (Int.toNat 52) (u64.bits))))) ||| (BitVec.ofInt u64.bits (u64.wrap (BitVec.toNat ((BitVec.ofInt u64.bits x6.t5) &&& (BitVec.ofInt u64.bits 4503599627370495))))))))] (.float .f64 e2) ∧
 R (.float .f64 e2) V2)))) ∧
 ((decide ((x6.t5 : Int) < 4503599627370496)) = false →
 ((decide ((x6.t5 : Int) < 4503599627370496)) = true →
 ∃ e3 : Nat, ExtVal Tryz.prog 221 #[.int .u64 x6.t5] (.float .f64 e3) ∧
 R (.float .f64 e3) V2) ∧
 ((decide ((x6.t5 : Int) < 4503599627370496)) = false →
 ((decide (((i64.wrap (x6.t1 + 1075)) : Int) > 2046)) = true →
 CallV Tryz.prog 159 #[.int .i64 1] V2 fun v V4 => ∃ r2 : Nat, v = .float .f64 r2 ∧
 R (.float .f64 r2) V4) ∧
 ((decide (((i64.wrap (x6.t1 + 1075)) : Int) > 2046)) = false →
 ∃ e4 : Nat, ExtVal Tryz.prog 221 #[.int .u64 (u64.wrap (BitVec.toNat ((BitVec.ofInt u64.bits (u64.wrap ((u64.wrap (i64.wrap (x6.t1 + 1075))) * 2 ^ (min (Int.toNat 52) (u64.bits))))) ||| (BitVec.ofInt u64.bits (u64.wrap (BitVec.toNat ((BitVec.ofInt u64.bits x6.t5) &&& (BitVec.ofInt u64.bits 4503599627370495))))))))] (.float .f64 e4) ∧
 R (.float .f64 e4) V2)))))))

theorem ref1_float_v0 (p0 : Sl) (p1 : Int) (V : View) (R : Value → View → Prop) (I0 : Unit → L_ref1_float_0 → View → Prop) (J0 : Unit → L_ref1_float_0 → View → Nat) (I1 : Unit → L_ref1_float_1 → View → Prop) (J1 : Unit → L_ref1_float_1 → View → Nat) {X : Prop} (e : ref1_float_sk p0 p1 V R I0 I1 I0 (fun c w V x U => I0 c w V ∧ J0 c w V < J0 c x U) I1 (fun c w V x U => I1 c w V ∧ J1 c w V < J1 c x U) = X) (h : X) :
 CallV Tryz.prog 275 #[p0.v, .int .i64 p1] V R :=
 calls_of_vc (Shp := Shp) hmixed Tryz.func275 (c := Tryz.f275.body.getD .skip) (args := [p0.v, .int .i64 p1]) (by kernel_rfl)
 (.seq (.reg [A 4 2]) (.seq (.seq (.reg [A 7 2, A 8 0, A 9 0]) (.cond (.seq (.reg [A 4 2]) .leaf) .leaf)) (.seq (.reg [A 5 2]) (.seq (.seq (.reg [A 10 2, A 11 0, A 12 0, A 6 2]) (.block (.loop Unit L_ref1_float_0 (fun _ => ()) (fun c x => { tm := spT 51 0 [(0, .val (p0.v)), (1, .val (.int .i64 p1)), (5, .val (.int .u64 x.t5)), (6, .val (.int .i64 x.t6))], own := spO 51 0 [] }) I0 J0 (.seq (.seq (.reg [A 13 2, A 14 0]) (.cond .leaf .leaf)) (.seq (.block (.reg [A 17 2, A 18 0, A 19 2, A 20 2, A 21 7, A 22 5, A 23 0, A 24 0, A 5 2])) (.reg [A 15 2, A 16 0, A 6 2])))))) (.seq (.block (.loop Unit L_ref1_float_1 (fun _ => ()) (fun c x => { tm := spT 51 0 [(1, .val (.int .i64 x.t1)), (5, .val (.int .u64 x.t5))], own := spO 51 0 [] }) I1 J1 (.seq (.seq (.reg [A 25 2, A 26 0, ⟨27, 2, true⟩, A 28 2, A 29 0, A 30 20]) (.cond .leaf .leaf)) (.block (.reg [A 31 2, A 32 0, A 33 2, A 34 0, A 5 2, A 1 2]))))) (.seq (.seq (.reg [A 35 2, A 36 0]) (.cond (.seq (.reg [A 37 2, A 38 12, A 4 2]) .leaf) .leaf)) (.seq (.seq (.reg [A 39 2, A 40 0, A 41 0]) (.cond (.seq (.reg [A 42 10, A 4 2]) .leaf) .leaf)) (.seq (.reg [A 43 2, A 44 0, A 45 0, A 46 0, A 47 2, A 48 0, A 49 0, A 50 12, A 4 2]) .leaf))))))))
 (Eq.mpr (by kernel_rfl) (show ref1_float_sk p0 p1 V R I0 I1 (fun c w V => ∃ x, ref1_float_f0 p0 p1 c w x ∧ I0 c x V) (fun c w V y U => ∃ x, ref1_float_f0 p0 p1 c w x ∧ I0 c x V ∧ J0 c x V < J0 c y U) (fun c w V => ∃ x, ref1_float_f1  c w x ∧ I1 c x V) (fun c w V y U => ∃ x, ref1_float_f1  c w x ∧ I1 c x V ∧ J1 c x V < J1 c y U) from by
 have h := Eq.mpr e h; unfold ref1_float_sk at h ⊢; have Ee0 := fun c w V (h : I0 c w V) => (⟨w, ⟨⟨rfl, rfl, rfl, rfl, trivial⟩, trivial⟩, h⟩ : ∃ x, ref1_float_f0 p0 p1 c w x ∧ I0 c x V); have Bb0 := fun c w V y U (h : I0 c w V ∧ J0 c w V < J0 c y U) => (⟨w, ⟨⟨rfl, rfl, rfl, rfl, trivial⟩, trivial⟩, h⟩ : ∃ x, ref1_float_f0 p0 p1 c w x ∧ I0 c x V ∧ J0 c x V < J0 c y U); have Ee1 := fun c w V (h : I1 c w V) => (⟨w, ⟨⟨rfl, rfl, trivial⟩, trivial⟩, h⟩ : ∃ x, ref1_float_f1  c w x ∧ I1 c x V); have Bb1 := fun c w V y U (h : I1 c w V ∧ J1 c w V < J1 c y U) => (⟨w, ⟨⟨rfl, rfl, trivial⟩, trivial⟩, h⟩ : ∃ x, ref1_float_f1  c w x ∧ I1 c x V ∧ J1 c x V < J1 c y U); exact ⟨fun h26 => (h.1 h26), fun h26 => ⟨(Ee0 _ _ _ (h.2 h26).1), fun x2 V1 h24 h25 => ⟨fun h23 => ⟨(((h.2 h26).2 x2 V1 h24 h25).1 h23).1, (match (((h.2 h26).2 x2 V1 h24 h25).1 h23).2 with | ⟨x3, h2, h1⟩ => ⟨x3, h2, (Bb0 _ _ _ _ _ h1)⟩)⟩, fun h23 => ⟨(Ee1 _ _ _ (((h.2 h26).2 x2 V1 h24 h25).2 h23).1), fun x6 V2 h21 h22 => ⟨fun h20 => ⟨fun h11 => (Bb1 _ _ _ _ _ ((((((h.2 h26).2 x2 V1 h24 h25).2 h23).2 x6 V2 h21 h22).1 h20).1 h11)), fun h11 => ⟨fun h10 => (match (((((((h.2 h26).2 x2 V1 h24 h25).2 h23).2 x6 V2 h21 h22).1 h20).2 h11).1 h10) with | ⟨e1, h4, h3⟩ => ⟨e1, h4, h3⟩), fun h10 => ⟨fun h9 => (CallV.mono ((((((((h.2 h26).2 x2 V1 h24 h25).2 h23).2 x6 V2 h21 h22).1 h20).2 h11).2 h10).1 h9) (fun _ _ _ ⟨r1, h6, h5⟩ => ⟨r1, h6, h5⟩)), fun h9 => (match ((((((((h.2 h26).2 x2 V1 h24 h25).2 h23).2 x6 V2 h21 h22).1 h20).2 h11).2 h10).2 h9) with | ⟨e2, h8, h7⟩ => ⟨e2, h8, h7⟩)⟩⟩⟩, fun h20 => ⟨fun h19 => (match ((((((h.2 h26).2 x2 V1 h24 h25).2 h23).2 x6 V2 h21 h22).2 h20).1 h19) with | ⟨e3, h13, h12⟩ => ⟨e3, h13, h12⟩), fun h19 => ⟨fun h18 => (CallV.mono (((((((h.2 h26).2 x2 V1 h24 h25).2 h23).2 x6 V2 h21 h22).2 h20).2 h19).1 h18) (fun _ _ _ ⟨r2, h15, h14⟩ => ⟨r2, h15, h14⟩)), fun h18 => (match (((((((h.2 h26).2 x2 V1 h24 h25).2 h23).2 x6 V2 h21 h22).2 h20).2 h19).2 h18) with | ⟨e4, h17, h16⟩ => ⟨e4, h17, h16⟩)⟩⟩⟩⟩⟩⟩⟩))

theorem ref1_float_vc : type_of% (fun p0 p1 V R I0 J0 I1 J1 => ref1_float_v0 p0 p1 V R I0 J0 I1 J1 (ref1_float_sk.eq_1 ..)) := fun p0 p1 V R I0 J0 I1 J1 => ref1_float_v0 p0 p1 V R I0 J0 I1 J1 (ref1_float_sk.eq_1 ..)

theorem ref1_toward_vc (p0 : Sl) (p1 : Sl) (p2 : Bool) (V : View) (R : Value → View → Prop) 
 (h :
 ((((p0.len : Int) : Int) == 0) = true →
 R (.float .f64 0) V) ∧
 ((((p0.len : Int) : Int) == 0) = false →
 CallV Tryz.prog 271 #[p0.v, p1.v, .int .i64 53, .int .i64 (-1074)] V fun v V1 => ∃ (r1 : Sl) (r2 : Int) (r3 : Int) (r4 : Bool), v = .tuple #[r1.v, .int .i64 r2, .int .u32 r3, .bool r4] ∧
 CallV Tryz.prog 272 #[r1.v] V1 fun v V2 => ∃ r5 : Int, v = .int .i64 r5 ∧
 ((decide (((i64.wrap (r5 + r2)) : Int) > 1024)) = true →
 (p2 = true →
 CallV Tryz.prog 159 #[.int .i64 1] V2 fun v V3 => ∃ r6 : Nat, v = .float .f64 r6 ∧
 R (.float .f64 r6) V3) ∧
 (p2 = false →
 R (.float .f64 9218868437227405311) V2)) ∧
 ((decide (((i64.wrap (r5 + r2)) : Int) > 1024)) = false →
 (p2 = true →
 (((r3 : Int) == 1) = true →
 ∀ (b1 : Nat) (V4 : View), View.le V2 V4 → View.Fin V4 → V4 b1 = some #[.int .u32 1] →
 CallV Tryz.prog 273 #[r1.v, (Sl.mk (some (Addr.mk b1 0 none)) 1 1).v] V4 fun v V5 => ∃ r7 : Sl, v = r7.v ∧
 CallV Tryz.prog 272 #[r7.v] V5 fun v V6 => ∃ r8 : Int, v = .int .i64 r8 ∧
 ((decide ((r8 : Int) > 53)) = true →
 CallV Tryz.prog 274 #[r7.v, .int .i64 1] V6 fun v V7 => ∃ r9 : Sl, v = r9.v ∧
 CallV Tryz.prog 272 #[r9.v] V7 fun v V8 => ∃ r10 : Int, v = .int .i64 r10 ∧
 ((decide (((i64.wrap (r10 + (i64.wrap (r2 + 1)))) : Int) > 1024)) = true →
 CallV Tryz.prog 159 #[.int .i64 1] V8 fun v V9 => ∃ r11 : Nat, v = .float .f64 r11 ∧
 R (.float .f64 r11) V9) ∧
 ((decide (((i64.wrap (r10 + (i64.wrap (r2 + 1)))) : Int) > 1024)) = false →
 CallV Tryz.prog 275 #[r9.v, .int .i64 (i64.wrap (r2 + 1))] V8 fun v V10 => ∃ r12 : Nat, v = .float .f64 r12 ∧
 R (.float .f64 r12) V10)) ∧
 ((decide ((r8 : Int) > 53)) = false →
 CallV Tryz.prog 272 #[r7.v] V6 fun v V11 => ∃ r13 : Int, v = .int .i64 r13 ∧
 ((decide (((i64.wrap (r13 + r2)) : Int) > 1024)) = true →
 CallV Tryz.prog 159 #[.int .i64 1] V11 fun v V12 => ∃ r14 : Nat, v = .float .f64 r14 ∧
 R (.float .f64 r14) V12) ∧
 ((decide (((i64.wrap (r13 + r2)) : Int) > 1024)) = false →
 CallV Tryz.prog 275 #[r7.v, .int .i64 r2] V11 fun v V13 => ∃ r15 : Nat, v = .float .f64 r15 ∧
 R (.float .f64 r15) V13))) ∧
 (((r3 : Int) == 1) = false →
 (r4 = true →
 ∀ (b2 : Nat) (V14 : View), View.le V2 V14 → View.Fin V14 → V14 b2 = some #[.int .u32 1] →
 CallV Tryz.prog 273 #[r1.v, (Sl.mk (some (Addr.mk b2 0 none)) 1 1).v] V14 fun v V15 => ∃ r16 : Sl, v = r16.v ∧
 CallV Tryz.prog 272 #[r16.v] V15 fun v V16 => ∃ r17 : Int, v = .int .i64 r17 ∧
 ((decide ((r17 : Int) > 53)) = true →
 CallV Tryz.prog 274 #[r16.v, .int .i64 1] V16 fun v V17 => ∃ r18 : Sl, v = r18.v ∧
 CallV Tryz.prog 272 #[r18.v] V17 fun v V18 => ∃ r19 : Int, v = .int .i64 r19 ∧
 ((decide (((i64.wrap (r19 + (i64.wrap (r2 + 1)))) : Int) > 1024)) = true →
 CallV Tryz.prog 159 #[.int .i64 1] V18 fun v V19 => ∃ r20 : Nat, v = .float .f64 r20 ∧
 R (.float .f64 r20) V19) ∧
 ((decide (((i64.wrap (r19 + (i64.wrap (r2 + 1)))) : Int) > 1024)) = false →
 CallV Tryz.prog 275 #[r18.v, .int .i64 (i64.wrap (r2 + 1))] V18 fun v V20 => ∃ r21 : Nat, v = .float .f64 r21 ∧
 R (.float .f64 r21) V20)) ∧
 ((decide ((r17 : Int) > 53)) = false →
 CallV Tryz.prog 272 #[r16.v] V16 fun v V21 => ∃ r22 : Int, v = .int .i64 r22 ∧
 ((decide (((i64.wrap (r22 + r2)) : Int) > 1024)) = true →
 CallV Tryz.prog 159 #[.int .i64 1] V21 fun v V22 => ∃ r23 : Nat, v = .float .f64 r23 ∧
 R (.float .f64 r23) V22) ∧
 ((decide (((i64.wrap (r22 + r2)) : Int) > 1024)) = false →
 CallV Tryz.prog 275 #[r16.v, .int .i64 r2] V21 fun v V23 => ∃ r24 : Nat, v = .float .f64 r24 ∧
 R (.float .f64 r24) V23))) ∧
 (r4 = false →
 CallV Tryz.prog 275 #[r1.v, .int .i64 r2] V2 fun v V24 => ∃ r25 : Nat, v = .float .f64 r25 ∧
 R (.float .f64 r25) V24))) ∧
 (p2 = false →
 CallV Tryz.prog 275 #[r1.v, .int .i64 r2] V2 fun v V25 => ∃ r26 : Nat, v = .float .f64 r26 ∧
 R (.float .f64 r26) V25)))) :
 CallV Tryz.prog 237 #[p0.v, p1.v, .bool p2] V R :=
 calls_of_vc (Shp := Shp) hmixed Tryz.func237 (c := Tryz.f237.body.getD .skip) (args := [p0.v, p1.v, .bool p2]) (by kernel_rfl)
 (.seq (.reg [A 6 2]) (.seq (.seq (.reg [A 11 2, A 12 0, A 13 0]) (.cond (.seq (.reg [A 6 2]) .leaf) .leaf)) (.seq (.reg [A 15 2, A 16 2, A 17 10, A 14 2, A 18 0, A 19 0, A 20 0, A 21 0, A 7 2, A 8 2, A 9 2, A 10 2]) (.seq (.seq (.reg [A 22 2, A 23 10, A 24 2, A 25 0, A 26 0]) (.cond (.seq (.seq (.reg [A 27 2]) (.cond (.seq (.reg [A 28 10, A 6 2]) .leaf) .leaf)) (.seq (.reg [A 6 2]) .leaf)) .leaf)) (.seq (.seq (.reg [A 29 2, ⟨30, 2, true⟩, A 31 2, A 32 0, ⟨33, 2, true⟩, A 34 2, A 35 20, A 36 20]) (.cond (.seq (.reg [A 37 2, A 38 11, A 39 10, A 7 2]) (.seq (.seq (.reg [A 40 2, A 41 10, A 42 0]) (.cond (.reg [A 43 2, A 44 10, A 45 2, A 46 0, A 7 2, A 8 2]) .leaf)) (.seq (.reg [A 47 2, A 48 10, A 49 2, A 50 0, A 51 0]) (.cond (.seq (.reg [A 52 10, A 6 2]) .leaf) .leaf)))) .leaf)) (.seq (.reg [A 53 2, A 54 2, A 55 10, A 6 2]) .leaf))))))
 (Eq.mpr (by kernel_rfl) h)

theorem ref1_finite_vc (p0 : Nat) (V : View) (R : Value → View → Prop) 
 (h :
 ∃ e1 : Int, ExtVal Tryz.prog 182 #[.float .f64 p0] (.int .u64 e1) ∧
 R (.bool (((u64.wrap (BitVec.toNat ((BitVec.ofInt u64.bits (Int.fdiv e1 (2 ^ (min (Int.toNat 52) (u64.bits))))) &&& (BitVec.ofInt u64.bits 2047)))) : Int) != 2047)) V) :
 CallV Tryz.prog 246 #[.float .f64 p0] V R :=
 calls_of_vc (Shp := Shp) hmixed Tryz.func246 (c := Tryz.f246.body.getD .skip) (args := [.float .f64 p0]) (by kernel_rfl)
 (.seq (.reg [A 2 9]) (.seq (.reg [A 3 2, A 4 12, A 5 0, A 6 0, A 7 0, A 2 2]) .leaf))
 (Eq.mpr (by kernel_rfl) h)

theorem ref1_dyadic_vc (p0 : Nat) (V : View) (R : Value → View → Prop) 
 (h :
 ∃ e1 : Int, ExtVal Tryz.prog 182 #[.float .f64 p0] (.int .u64 e1) ∧
 ((((i64.wrap (u64.wrap (BitVec.toNat ((BitVec.ofInt u64.bits (Int.fdiv e1 (2 ^ (min (Int.toNat 52) (u64.bits))))) &&& (BitVec.ofInt u64.bits 2047))))) : Int) == 0) = true →
 CallV Tryz.prog 238 #[.int .u64 (u64.wrap (BitVec.toNat ((BitVec.ofInt u64.bits e1) &&& (BitVec.ofInt u64.bits 4503599627370495))))] V fun v V1 => ∃ r1 : Sl, v = r1.v ∧
 CallV Tryz.prog 241 #[.bool (((Int.fdiv e1 (2 ^ (min (Int.toNat 63) (u64.bits)))) : Int) == 1), r1.v] V1 fun v V2 => ∃ r2 : WhV, v = r2.val ∧
 ((decide ((1 : Int) ≥ 1075)) = true →
 CallV Tryz.prog 264 #[r2.mag.v, .int .i64 (i64.wrap (1 - 1075))] V2 fun v V3 => ∃ r3 : Sl, v = r3.v ∧
 CallV Tryz.prog 241 #[.bool r2.neg, r3.v] V3 fun v V4 => ∃ r4 : WhV, v = r4.val ∧
 ∀ (b1 : Nat) (V5 : View), View.le V4 V5 → View.Fin V5 → V5 b1 = some #[.int .u32 1] →
 R ((NumV.mk r4 (WhV.mk false (Sl.mk none 0 0)) (Sl.mk (some (Addr.mk b1 0 none)) 1 1)).val) V5) ∧
 ((decide ((1 : Int) ≥ 1075)) = false →
 ∀ (b2 : Nat) (V6 : View), View.le V2 V6 → View.Fin V6 → V6 b2 = some #[.int .u32 1] →
 CallV Tryz.prog 264 #[(Sl.mk (some (Addr.mk b2 0 none)) 1 1).v, .int .i64 (i64.wrap (1075 - 1))] V6 fun v V7 => ∃ r5 : Sl, v = r5.v ∧
 CallV Tryz.prog 196 #[r2.val, (WhV.mk false (Sl.mk none 0 0)).val, r5.v] V7 fun v V8 => ∃ r6 : NumV, v = r6.val ∧
 R (r6.val) V8)) ∧
 ((((i64.wrap (u64.wrap (BitVec.toNat ((BitVec.ofInt u64.bits (Int.fdiv e1 (2 ^ (min (Int.toNat 52) (u64.bits))))) &&& (BitVec.ofInt u64.bits 2047))))) : Int) == 0) = false →
 CallV Tryz.prog 238 #[.int .u64 (u64.wrap (BitVec.toNat ((BitVec.ofInt u64.bits (u64.wrap (BitVec.toNat ((BitVec.ofInt u64.bits e1) &&& (BitVec.ofInt u64.bits 4503599627370495))))) ||| (BitVec.ofInt u64.bits 4503599627370496))))] V fun v V9 => ∃ r7 : Sl, v = r7.v ∧
 CallV Tryz.prog 241 #[.bool (((Int.fdiv e1 (2 ^ (min (Int.toNat 63) (u64.bits)))) : Int) == 1), r7.v] V9 fun v V10 => ∃ r8 : WhV, v = r8.val ∧
 ((decide (((i64.wrap (u64.wrap (BitVec.toNat ((BitVec.ofInt u64.bits (Int.fdiv e1 (2 ^ (min (Int.toNat 52) (u64.bits))))) &&& (BitVec.ofInt u64.bits 2047))))) : Int) ≥ 1075)) = true →
 CallV Tryz.prog 264 #[r8.mag.v, .int .i64 (i64.wrap ((i64.wrap (u64.wrap (BitVec.toNat ((BitVec.ofInt u64.bits (Int.fdiv e1 (2 ^ (min (Int.toNat 52) (u64.bits))))) &&& (BitVec.ofInt u64.bits 2047))))) - 1075))] V10 fun v V11 => ∃ r9 : Sl, v = r9.v ∧
 CallV Tryz.prog 241 #[.bool r8.neg, r9.v] V11 fun v V12 => ∃ r10 : WhV, v = r10.val ∧
 ∀ (b3 : Nat) (V13 : View), View.le V12 V13 → View.Fin V13 → V13 b3 = some #[.int .u32 1] →
 R ((NumV.mk r10 (WhV.mk false (Sl.mk none 0 0)) (Sl.mk (some (Addr.mk b3 0 none)) 1 1)).val) V13) ∧
 ((decide (((i64.wrap (u64.wrap (BitVec.toNat ((BitVec.ofInt u64.bits (Int.fdiv e1 (2 ^ (min (Int.toNat 52) (u64.bits))))) &&& (BitVec.ofInt u64.bits 2047))))) : Int) ≥ 1075)) = false →
 ∀ (b4 : Nat) (V14 : View), View.le V10 V14 → View.Fin V14 → V14 b4 = some #[.int .u32 1] →
 CallV Tryz.prog 264 #[(Sl.mk (some (Addr.mk b4 0 none)) 1 1).v, .int .i64 (i64.wrap (1075 - (i64.wrap (u64.wrap (BitVec.toNat ((BitVec.ofInt u64.bits (Int.fdiv e1 (2 ^ (min (Int.toNat 52) (u64.bits))))) &&& (BitVec.ofInt u64.bits 2047)))))))] V14 fun v V15 => ∃ r11 : Sl, v = r11.v ∧
 CallV Tryz.prog 196 #[r8.val, (WhV.mk false (Sl.mk none 0 0)).val, r11.v] V15 fun v V16 => ∃ r12 : NumV, v = r12.val ∧
 R (r12.val) V16))) :
 CallV Tryz.prog 247 #[.float .f64 p0] V R :=
 calls_of_vc (Shp := Shp) hmixed Tryz.func247 (c := Tryz.f247.body.getD .skip) (args := [.float .f64 p0]) (by kernel_rfl)
 (.seq (.reg [A 2 3]) (.seq (.reg [A 7 2, A 8 12, A 3 2]) (.seq (.reg [A 9 2, A 10 0, A 11 0, A 12 0, A 4 2]) (.seq (.reg [A 13 2, A 14 0, A 5 2]) (.seq (.seq (.reg [A 15 2, A 16 0]) (.cond (.reg [A 4 2]) (.reg [A 17 2, A 18 0, A 5 2]))) (.seq (.reg [A 19 2, A 20 0, A 21 0, A 22 2, A 23 10, A 24 10, A 6 3, A 6 6]) (.seq (.seq (.reg [A 25 2, A 26 0]) (.cond (.seq (.draw [(0, A 27 7), (1, A 6 4), (2, A 29 7), (3, A 6 4), (4, A 31 2), (5, A 32 0), (8, A 35 0), (6, A 33 10), (7, A 34 10), (9, A 36 11), (10, A 37 0), (11, A 2 6)] [0, 1, 0, 4, 0, 16, 60, 127, 0, 0, 1023, 2047]) .leaf) .leaf)) (.seq (.draw [(0, A 6 4), (1, A 39 0), (3, A 41 2), (4, A 42 0), (2, A 40 11), (5, A 43 10), (6, A 44 10), (7, A 2 6)] [0, 0, 0, 0, 8, 28, 63, 127]) .leaf))))))))
 (Eq.mpr (by kernel_rfl) h)

theorem ref1_Float_vc (p0 : Nat) (V : View) (R : Value → View → Prop) 
 (h :
 CallV Tryz.prog 246 #[.float .f64 p0] V fun v V1 => ∃ r1 : Bool, v = .bool r1 ∧
 ((!r1) = true →
 CallV Tryz.prog 108 #[.int .i64 0] V1 fun v V2 => ∃ r2 : NumV, v = r2.val ∧
 R (.tuple #[r2.val, .int .i64 1]) V2) ∧
 ((!r1) = false →
 CallV Tryz.prog 247 #[.float .f64 p0] V1 fun v V3 => ∃ r3 : NumV, v = r3.val ∧
 R (.tuple #[r3.val, .int .i64 0]) V3)) :
 CallV Tryz.prog 201 #[.float .f64 p0] V R :=
 calls_of_vc (Shp := Shp) hmixed Tryz.func201 (c := Tryz.f201.body.getD .skip) (args := [.float .f64 p0]) (by kernel_rfl)
 (.seq (.reg [A 2 3, A 3 2]) (.seq (.seq (.reg [A 4 2, A 5 10, A 6 20]) (.cond (.seq (.reg [A 7 10, A 2 6, A 3 2]) .leaf) .leaf)) (.seq (.reg [A 8 2, A 9 10, A 2 6, A 3 2]) .leaf)))
 (Eq.mpr (by kernel_rfl) h)

theorem ref1_Below_vc (p0 : NumV) (V : View) (R : Value → View → Prop) 
 (h :
 CallV Tryz.prog 237 #[p0.re.mag.v, p0.under.v, .bool p0.re.neg] V fun v V1 => ∃ r1 : Nat, v = .float .f64 r1 ∧
 (p0.re.neg = true →
 ((FloatKind.f64.format.order r1 0 != some .eq) = true →
 R (.float .f64 (Op.negFloat .f64 r1)) V1) ∧
 ((FloatKind.f64.format.order r1 0 != some .eq) = false →
 R (.float .f64 r1) V1)) ∧
 (p0.re.neg = false →
 R (.float .f64 r1) V1)) :
 CallV Tryz.prog 189 #[p0.val] V R :=
 calls_of_vc (Shp := Shp) hmixed Tryz.func189 (c := Tryz.f189.body.getD .skip) (args := [p0.val]) (by kernel_rfl)
 (.seq (.reg [A 1 3, A 2 2]) (.seq (.reg [A 4 7, A 5 7, A 1 4, A 7 7, A 1 4, A 9 7, A 10 7, A 1 4, A 12 10, A 3 2]) (.seq (.seq (.reg [A 13 7, A 14 7, A 1 4, ⟨16, 2, true⟩, A 17 2, A 18 0, A 19 20]) (.cond (.seq (.reg [A 20 2, A 21 0, A 2 2]) .leaf) .leaf)) (.seq (.reg [A 22 2, A 2 2]) .leaf))))
 (Eq.mpr (by kernel_rfl) h)

theorem ref1_Above_vc (p0 : NumV) (V : View) (R : Value → View → Prop) 
 (h :
 CallV Tryz.prog 237 #[p0.re.mag.v, p0.under.v, .bool (!p0.re.neg)] V fun v V1 => ∃ r1 : Nat, v = .float .f64 r1 ∧
 (p0.re.neg = true →
 ((FloatKind.f64.format.order r1 0 != some .eq) = true →
 R (.float .f64 (Op.negFloat .f64 r1)) V1) ∧
 ((FloatKind.f64.format.order r1 0 != some .eq) = false →
 R (.float .f64 r1) V1)) ∧
 (p0.re.neg = false →
 R (.float .f64 r1) V1)) :
 CallV Tryz.prog 190 #[p0.val] V R :=
 calls_of_vc (Shp := Shp) hmixed Tryz.func190 (c := Tryz.f190.body.getD .skip) (args := [p0.val]) (by kernel_rfl)
 (.seq (.reg [A 1 3, A 2 2]) (.seq (.reg [A 4 7, A 5 7, A 1 4, A 7 7, A 1 4, A 9 7, A 10 7, A 1 4, A 12 20, A 13 10, A 3 2]) (.seq (.seq (.reg [A 14 7, A 15 7, A 1 4, ⟨17, 2, true⟩, A 18 2, A 19 0, A 20 20]) (.cond (.seq (.reg [A 21 2, A 22 0, A 2 2]) .leaf) .leaf)) (.seq (.reg [A 23 2, A 2 2]) .leaf))))
 (Eq.mpr (by kernel_rfl) h)

end Go.Proofs.YtkibfmnkkiakoaaGreat
