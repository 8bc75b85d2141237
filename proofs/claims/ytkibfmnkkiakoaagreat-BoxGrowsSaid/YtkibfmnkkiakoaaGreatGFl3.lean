/- Part of the proof; it has the parts GFl3. -/
import Derived.Test.YtkibfmnkkiakoaaGreatGBx1
set_option maxRecDepth 100000
set_option maxHeartbeats 4000000
namespace Go.Proofs.YtkibfmnkkiakoaaGreat
open Go Go.Vc Go.Proofs
open Go.IntKind (i8 i16 i32 i64 u8 u16 u32 u64)

structure L_form_round_0 where
 t9 : Int
structure L_form_round_1 where
 t14 : Int
 t82 : Int
structure C_form_round_1 where
 t10 : Int
 t11 : Sl
 t13 : Sl
 t80 : Sl
 t81 : Int
structure L_form_round_2 where
 t14 : Int
structure C_form_round_2 where
 t10 : Int
structure L_form_round_3 where
 u : Unit
structure C_form_round_3 where
 t10 : Int
 t14 : Int
def form_round_f0 (p0 : FormV) (p1 : Sl) (p2 : Sl) (p3 : Int) (_c : Unit) (w x : L_form_round_0) : Prop := (Q1 (.val (p1.v)) ∧ Q1 (.val (p2.v)) ∧ Q1 (.val (.int .i64 p3)) ∧ Q1 (.own 4 0) ∧ E2 (.val (.int .i64 w.t9)) (.val (.int .i64 x.t9)) ∧ True) ∧ (O2 ⟨179, .fixed [.val (.int .i64 p0.size), .val (.int .i64 p0.low), .val (.int .i64 p0.top)]⟩ ⟨179, .fixed [.val (.int .i64 p0.size), .val (.int .i64 p0.low), .val (.int .i64 p0.top)]⟩ ∧ True)
def form_round_f1 (p0 : FormV) (p3 : Int) (c : C_form_round_1) (w x : L_form_round_1) : Prop := (Q1 (.val (.int .i64 p3)) ∧ Q1 (.own 4 0) ∧ Q1 (.val (.int .i64 c.t10)) ∧ Q1 (.val (c.t11.v)) ∧ Q1 (.val (c.t13.v)) ∧ E2 (.val (.int .u64 w.t14)) (.val (.int .u64 x.t14)) ∧ Q1 (.val (c.t80.v)) ∧ Q1 (.val (.int .i64 c.t81)) ∧ E2 (.val (.int .i64 w.t82)) (.val (.int .i64 x.t82)) ∧ True) ∧ (O2 ⟨179, .fixed [.val (.int .i64 p0.size), .val (.int .i64 p0.low), .val (.int .i64 p0.top)]⟩ ⟨179, .fixed [.val (.int .i64 p0.size), .val (.int .i64 p0.low), .val (.int .i64 p0.top)]⟩ ∧ True)
def form_round_f2 (p0 : FormV) (c : C_form_round_2) (w x : L_form_round_2) : Prop := (Q1 (.own 4 0) ∧ Q1 (.val (.int .i64 c.t10)) ∧ E2 (.val (.int .u64 w.t14)) (.val (.int .u64 x.t14)) ∧ True) ∧ (O2 ⟨179, .fixed [.val (.int .i64 p0.size), .val (.int .i64 p0.low), .val (.int .i64 p0.top)]⟩ ⟨179, .fixed [.val (.int .i64 p0.size), .val (.int .i64 p0.low), .val (.int .i64 p0.top)]⟩ ∧ True)
def form_round_f3  (c : C_form_round_3) (_w _x : L_form_round_3) : Prop := (Q1 (.val (.int .i64 c.t10)) ∧ Q1 (.val (.int .u64 c.t14)) ∧ True) ∧ (True)
def form_round_sk (p0 : FormV) (p1 : Sl) (p2 : Sl) (p3 : Int) (V : View) (R : Value → View → Prop) (I0 : Unit → L_form_round_0 → View → Prop) (I1 : C_form_round_1 → L_form_round_1 → View → Prop) (I2 : C_form_round_2 → L_form_round_2 → View → Prop) (I3 : C_form_round_3 → L_form_round_3 → View → Prop) (E0 : Unit → L_form_round_0 → View → Prop) (E1 : C_form_round_1 → L_form_round_1 → View → Prop) (B1 : C_form_round_1 → L_form_round_1 → View → L_form_round_1 → View → Prop) (E2 : C_form_round_2 → L_form_round_2 → View → Prop) (E3 : C_form_round_3 → L_form_round_3 → View → Prop) : Prop :=
 ((((p1.len : Int) : Int) == 0) = true →
 R (.float .f64 0) V) ∧
 ((((p1.len : Int) : Int) == 0) = false →
 CallV Tryz.prog 256 #[p1.v] V fun v V1 => ∃ r1 : Int, v = .int .i64 r1 ∧
 CallV Tryz.prog 256 #[p2.v] V1 fun v V2 => ∃ r2 : Int, v = .int .i64 r2 ∧
 (CallV Tryz.prog 139 #[p1.v, .int .i64 (if (0 : Int) > (i64.wrap (0 - (i64.wrap (r1 - r2)))) then 0 else (i64.wrap (0 - (i64.wrap (r1 - r2)))))] V2 fun v V4 => ∃ r3 : Sl, v = r3.v ∧
 CallV Tryz.prog 139 #[p2.v, .int .i64 (if (0 : Int) > (i64.wrap (r1 - r2)) then 0 else (i64.wrap (r1 - r2)))] V4 fun v V5 => ∃ r4 : Sl, v = r4.v ∧
 CallV Tryz.prog 144 #[r3.v, r4.v] V5 fun v V6 => ∃ r5 : Int, v = .int .i64 r5 ∧
 ((decide ((r5 : Int) < 0)) = true →
 E0 () (L_form_round_0.mk (i64.wrap ((i64.wrap (r1 - r2)) - 1))) V6) ∧
 ((decide ((r5 : Int) < 0)) = false →
 E0 () (L_form_round_0.mk (i64.wrap (r1 - r2))) V6)) ∧
 (∀ (x1 : L_form_round_0) (V3 : View), View.le V2 V3 → I0 () x1 V3 →
 ((decide ((x1.t9 : Int) > p0.top)) = true →
 (((p3 : Int) == 0) = true →
 (0 : Int) ≤ p0.size ∧
 CallV Tryz.prog 257 #[.float .f64 (FloatKind.f64.nearest (u64.wrap ((u64.wrap (1 * 2 ^ (min (Int.toNat p0.size) (IntKind.bits .u64)))) - 1))), .int .i64 (i64.wrap ((i64.wrap (p0.top - p0.size)) + 1))] V3 fun v V7 => ∃ r6 : Nat, v = .float .f64 r6 ∧
 R (.float .f64 r6) V7) ∧
 (((p3 : Int) == 0) = false →
 CallV Tryz.prog 159 #[.int .i64 1] V3 fun v V8 => ∃ r7 : Nat, v = .float .f64 r7 ∧
 R (.float .f64 r7) V8)) ∧
 ((decide ((x1.t9 : Int) > p0.top)) = false →
 CallV Tryz.prog 139 #[p2.v, .int .i64 (if (0 : Int) > (if (p0.low : Int) > (i64.wrap ((i64.wrap (x1.t9 - p0.size)) + 1)) then p0.low else (i64.wrap ((i64.wrap (x1.t9 - p0.size)) + 1))) then 0 else (if (p0.low : Int) > (i64.wrap ((i64.wrap (x1.t9 - p0.size)) + 1)) then p0.low else (i64.wrap ((i64.wrap (x1.t9 - p0.size)) + 1))))] V3 fun v V9 => ∃ r8 : Sl, v = r8.v ∧
 CallV Tryz.prog 139 #[p1.v, .int .i64 (if (0 : Int) > (i64.wrap (0 - (if (p0.low : Int) > (i64.wrap ((i64.wrap (x1.t9 - p0.size)) + 1)) then p0.low else (i64.wrap ((i64.wrap (x1.t9 - p0.size)) + 1))))) then 0 else (i64.wrap (0 - (if (p0.low : Int) > (i64.wrap ((i64.wrap (x1.t9 - p0.size)) + 1)) then p0.low else (i64.wrap ((i64.wrap (x1.t9 - p0.size)) + 1))))))] V9 fun v V10 => ∃ r9 : Sl, v = r9.v ∧
 CallV Tryz.prog 210 #[r9.v, r8.v] V10 fun v V11 => ∃ (r10 : Sl) (r11 : Sl), v = .tuple #[r10.v, r11.v] ∧
 E1 (C_form_round_1.mk (if (p0.low : Int) > (i64.wrap ((i64.wrap (x1.t9 - p0.size)) + 1)) then p0.low else (i64.wrap ((i64.wrap (x1.t9 - p0.size)) + 1))) r8 r11 r10 (r10.len : Int)) (L_form_round_1.mk 0 0) V11 ∧
 (∀ (x5 : L_form_round_1) (V12 : View), View.le V11 V12 → I1 (C_form_round_1.mk (if (p0.low : Int) > (i64.wrap ((i64.wrap (x1.t9 - p0.size)) + 1)) then p0.low else (i64.wrap ((i64.wrap (x1.t9 - p0.size)) + 1))) r8 r11 r10 (r10.len : Int)) x5 V12 →
 ((decide ((x5.t82 : Int) < (r10.len : Int))) = true →
 ((0 : Int) ≤ x5.t82 ∧ (x5.t82 : Int) < (r10.len : Nat) ∧ Option.isSome r10.a = true) ∧
 ∃ x6 : Int, View.load V12 (Option.map (fun q => Addr.add q (Int.toNat x5.t82 * 1)) r10.a) = some (.int .u32 x6) ∧
 (0 : Int) ≤ (i64.wrap (32 * x5.t82)) ∧
 B1 (C_form_round_1.mk (if (p0.low : Int) > (i64.wrap ((i64.wrap (x1.t9 - p0.size)) + 1)) then p0.low else (i64.wrap ((i64.wrap (x1.t9 - p0.size)) + 1))) r8 r11 r10 (r10.len : Int)) (L_form_round_1.mk (u64.wrap (BitVec.toNat ((BitVec.ofInt u64.bits x5.t14) ||| (BitVec.ofInt u64.bits (u64.wrap ((u64.wrap x6) * 2 ^ (min (Int.toNat (i64.wrap (32 * x5.t82))) (IntKind.bits .u64)))))))) (i64.wrap (x5.t82 + 1))) V12 x5 V12) ∧
 ((decide ((x5.t82 : Int) < (r10.len : Int))) = false →
 CallV Tryz.prog 139 #[r11.v, .int .i64 1] V12 fun v V13 => ∃ r12 : Sl, v = r12.v ∧
 CallV Tryz.prog 144 #[r12.v, r8.v] V13 fun v V14 => ∃ r13 : Int, v = .int .i64 r13 ∧
 ((((p3 : Int) == 1) = true →
 ((decide (((r11.len : Int) : Int) > 0)) = true →
 E2 (C_form_round_2.mk (if (p0.low : Int) > (i64.wrap ((i64.wrap (x1.t9 - p0.size)) + 1)) then p0.low else (i64.wrap ((i64.wrap (x1.t9 - p0.size)) + 1)))) (L_form_round_2.mk (u64.wrap (x5.t14 + 1))) V14) ∧
 ((decide (((r11.len : Int) : Int) > 0)) = false →
 (((p3 : Int) == 2) = true →
 ((decide ((r13 : Int) > 0)) = true →
 E2 (C_form_round_2.mk (if (p0.low : Int) > (i64.wrap ((i64.wrap (x1.t9 - p0.size)) + 1)) then p0.low else (i64.wrap ((i64.wrap (x1.t9 - p0.size)) + 1)))) (L_form_round_2.mk (u64.wrap (x5.t14 + 1))) V14) ∧
 ((decide ((r13 : Int) > 0)) = false →
 (((r13 : Int) == 0) = true →
 ((((Int.tmod x5.t14 2) : Int) == 1) = true →
 E2 (C_form_round_2.mk (if (p0.low : Int) > (i64.wrap ((i64.wrap (x1.t9 - p0.size)) + 1)) then p0.low else (i64.wrap ((i64.wrap (x1.t9 - p0.size)) + 1)))) (L_form_round_2.mk (u64.wrap (x5.t14 + 1))) V14) ∧
 ((((Int.tmod x5.t14 2) : Int) == 1) = false →
 E2 (C_form_round_2.mk (if (p0.low : Int) > (i64.wrap ((i64.wrap (x1.t9 - p0.size)) + 1)) then p0.low else (i64.wrap ((i64.wrap (x1.t9 - p0.size)) + 1)))) (L_form_round_2.mk x5.t14) V14)) ∧
 (((r13 : Int) == 0) = false →
 E2 (C_form_round_2.mk (if (p0.low : Int) > (i64.wrap ((i64.wrap (x1.t9 - p0.size)) + 1)) then p0.low else (i64.wrap ((i64.wrap (x1.t9 - p0.size)) + 1)))) (L_form_round_2.mk x5.t14) V14))) ∧
 (((p3 : Int) == 2) = false →
 E2 (C_form_round_2.mk (if (p0.low : Int) > (i64.wrap ((i64.wrap (x1.t9 - p0.size)) + 1)) then p0.low else (i64.wrap ((i64.wrap (x1.t9 - p0.size)) + 1)))) (L_form_round_2.mk x5.t14) V14))) ∧
 (((p3 : Int) == 1) = false →
 (((p3 : Int) == 2) = true →
 ((decide ((r13 : Int) > 0)) = true →
 E2 (C_form_round_2.mk (if (p0.low : Int) > (i64.wrap ((i64.wrap (x1.t9 - p0.size)) + 1)) then p0.low else (i64.wrap ((i64.wrap (x1.t9 - p0.size)) + 1)))) (L_form_round_2.mk (u64.wrap (x5.t14 + 1))) V14) ∧
 ((decide ((r13 : Int) > 0)) = false →
 (((r13 : Int) == 0) = true →
 ((((Int.tmod x5.t14 2) : Int) == 1) = true →
 E2 (C_form_round_2.mk (if (p0.low : Int) > (i64.wrap ((i64.wrap (x1.t9 - p0.size)) + 1)) then p0.low else (i64.wrap ((i64.wrap (x1.t9 - p0.size)) + 1)))) (L_form_round_2.mk (u64.wrap (x5.t14 + 1))) V14) ∧
 ((((Int.tmod x5.t14 2) : Int) == 1) = false →
 E2 (C_form_round_2.mk (if (p0.low : Int) > (i64.wrap ((i64.wrap (x1.t9 - p0.size)) + 1)) then p0.low else (i64.wrap ((i64.wrap (x1.t9 - p0.size)) + 1)))) (L_form_round_2.mk x5.t14) V14)) ∧
 (((r13 : Int) == 0) = false →
 E2 (C_form_round_2.mk (if (p0.low : Int) > (i64.wrap ((i64.wrap (x1.t9 - p0.size)) + 1)) then p0.low else (i64.wrap ((i64.wrap (x1.t9 - p0.size)) + 1)))) (L_form_round_2.mk x5.t14) V14))) ∧
 (((p3 : Int) == 2) = false →
 E2 (C_form_round_2.mk (if (p0.low : Int) > (i64.wrap ((i64.wrap (x1.t9 - p0.size)) + 1)) then p0.low else (i64.wrap ((i64.wrap (x1.t9 - p0.size)) + 1)))) (L_form_round_2.mk x5.t14) V14))) ∧
 (∀ (x8 : L_form_round_2) (V15 : View), View.le V14 V15 → I2 (C_form_round_2.mk (if (p0.low : Int) > (i64.wrap ((i64.wrap (x1.t9 - p0.size)) + 1)) then p0.low else (i64.wrap ((i64.wrap (x1.t9 - p0.size)) + 1)))) x8 V15 →
 ((0 : Int) ≤ p0.size ∧
 (((x8.t14 : Int) == (u64.wrap (1 * 2 ^ (min (Int.toNat p0.size) (IntKind.bits .u64))))) = true →
 ((((if (p0.low : Int) > (i64.wrap ((i64.wrap (x1.t9 - p0.size)) + 1)) then p0.low else (i64.wrap ((i64.wrap (x1.t9 - p0.size)) + 1))) : Int) == (i64.wrap ((i64.wrap (p0.top - p0.size)) + 1))) = true →
 CallV Tryz.prog 159 #[.int .i64 1] V15 fun v V17 => ∃ r14 : Nat, v = .float .f64 r14 ∧
 R (.float .f64 r14) V17) ∧
 ((((if (p0.low : Int) > (i64.wrap ((i64.wrap (x1.t9 - p0.size)) + 1)) then p0.low else (i64.wrap ((i64.wrap (x1.t9 - p0.size)) + 1))) : Int) == (i64.wrap ((i64.wrap (p0.top - p0.size)) + 1))) = false →
 E3 (C_form_round_3.mk (if (p0.low : Int) > (i64.wrap ((i64.wrap (x1.t9 - p0.size)) + 1)) then p0.low else (i64.wrap ((i64.wrap (x1.t9 - p0.size)) + 1))) x8.t14) (L_form_round_3.mk ()) V15)) ∧
 (((x8.t14 : Int) == (u64.wrap (1 * 2 ^ (min (Int.toNat p0.size) (IntKind.bits .u64))))) = false →
 E3 (C_form_round_3.mk (if (p0.low : Int) > (i64.wrap ((i64.wrap (x1.t9 - p0.size)) + 1)) then p0.low else (i64.wrap ((i64.wrap (x1.t9 - p0.size)) + 1))) x8.t14) (L_form_round_3.mk ()) V15)) ∧
 (∀ (x20 : L_form_round_3) (V16 : View), View.le V15 V16 → I3 (C_form_round_3.mk (if (p0.low : Int) > (i64.wrap ((i64.wrap (x1.t9 - p0.size)) + 1)) then p0.low else (i64.wrap ((i64.wrap (x1.t9 - p0.size)) + 1))) x8.t14) x20 V16 →
 CallV Tryz.prog 257 #[.float .f64 (FloatKind.f64.nearest x8.t14), .int .i64 (if (p0.low : Int) > (i64.wrap ((i64.wrap (x1.t9 - p0.size)) + 1)) then p0.low else (i64.wrap ((i64.wrap (x1.t9 - p0.size)) + 1)))] V16 fun v V18 => ∃ r15 : Nat, v = .float .f64 r15 ∧
 R (.float .f64 r15) V18)))))))

theorem form_round_v0 (p0 : FormV) (p1 : Sl) (p2 : Sl) (p3 : Int) (V : View) (R : Value → View → Prop) (I0 : Unit → L_form_round_0 → View → Prop) (I1 : C_form_round_1 → L_form_round_1 → View → Prop) (J1 : C_form_round_1 → L_form_round_1 → View → Nat) (I2 : C_form_round_2 → L_form_round_2 → View → Prop) (I3 : C_form_round_3 → L_form_round_3 → View → Prop) {X : Prop} (e : form_round_sk p0 p1 p2 p3 V R I0 I1 I2 I3 I0 I1 (fun c w V x U => I1 c w V ∧ J1 c w V < J1 c x U) I2 I3 = X) (h : X) :
 CallV Tryz.prog 212 #[p0.val, p1.v, p2.v, .int .i64 p3] V R :=
 calls_of_vc (Shp := Shp) hmixed Tryz.func212 (c := Tryz.f212.body.getD .skip) (args := [p0.val, p1.v, p2.v, .int .i64 p3]) (by kernel_rfl)
 (.seq (.reg [A 4 3, A 8 2]) (.seq (.seq (.reg [A 18 2, A 19 0, A 20 0]) (.cond (.seq (.reg [A 8 2]) .leaf) .leaf)) (.seq (.reg [A 21 2, A 22 10, A 23 2, A 24 10, A 25 0, A 9 2]) (.cut Unit L_form_round_0 (fun _ => ()) (fun c x => { tm := spT 145 0 [(1, .val (p1.v)), (2, .val (p2.v)), (3, .val (.int .i64 p3)), (4, .own 4 0), (9, .val (.int .i64 x.t9))], own := spO 145 0 [(4, ⟨179, .fixed [.val (.int .i64 p0.size), .val (.int .i64 p0.low), .val (.int .i64 p0.top)]⟩)] }) I0 (.seq (.reg [A 26 2, A 27 2, A 28 0, A 29 0, A 30 10, A 31 2, A 32 2, A 33 0, A 34 10, A 35 10, A 36 0]) (.cond (.reg [A 37 2, A 38 0, A 9 2]) .leaf)) (.seq (.seq (.reg [A 39 2, A 40 7, A 4 4, A 42 0]) (.cond (.seq (.seq (.reg [A 43 2, A 44 0]) (.cond (.seq (.draw [(0, A 45 7), (1, A 4 4), (2, A 47 12), (3, A 48 0), (4, A 49 0), (5, A 50 7), (6, A 4 4), (7, A 52 7), (8, A 4 4), (9, A 54 0), (10, A 55 0), (11, A 56 10), (12, A 8 2)] [0, 1, 3, 7, 15, 0, 32, 0, 128, 480, 992, 2047, 4095]) .leaf) .leaf)) (.seq (.reg [A 57 10, A 8 2]) .leaf)) .leaf)) (.seq (.reg [A 58 2, A 59 7, A 4 4, A 61 0, A 62 0, A 63 7, A 4 4, A 65 0, A 10 2]) (.seq (.reg [A 66 2, A 67 2, A 68 0, A 69 10, A 11 2]) (.seq (.reg [A 71 2, A 72 2, A 73 0, A 74 0, A 75 10, A 76 2, A 77 10, A 70 2, A 78 0, A 79 0, A 12 2, A 13 2]) (.seq (.reg [A 14 2]) (.seq (.seq (.reg [A 80 2, A 81 0, A 82 2]) (.block (.loop C_form_round_1 L_form_round_1 (fun σ => C_form_round_1.mk (gInt (gTm σ 10)) (Sl.mk (gSlA (gTm σ 11)) (gSlL (gTm σ 11)) (gSlC (gTm σ 11))) (Sl.mk (gSlA (gTm σ 13)) (gSlL (gTm σ 13)) (gSlC (gTm σ 13))) (Sl.mk (gSlA (gTm σ 80)) (gSlL (gTm σ 80)) (gSlC (gTm σ 80))) (gInt (gTm σ 81))) (fun c x => { tm := spT 145 0 [(3, .val (.int .i64 p3)), (4, .own 4 0), (10, .val (.int .i64 c.t10)), (11, .val (c.t11.v)), (13, .val (c.t13.v)), (14, .val (.int .u64 x.t14)), (80, .val (c.t80.v)), (81, .val (.int .i64 c.t81)), (82, .val (.int .i64 x.t82))], own := spO 145 0 [(4, ⟨179, .fixed [.val (.int .i64 p0.size), .val (.int .i64 p0.low), .val (.int .i64 p0.top)]⟩)] }) I1 J1 (.seq (.reg [A 83 0]) (.seq (.cond .leaf .leaf) (.seq (.block (.seq (.reg [A 84 2, A 85 7, A 86 5, A 15 2, A 16 2]) (.reg [A 87 2, A 88 2, A 89 0, A 90 2, A 91 0, A 92 12, A 93 0, A 14 2]))) (.reg [A 94 0, A 82 2]))))))) (.seq (.reg [A 95 2, A 96 10, A 97 2, A 98 10, A 17 2]) (.cut C_form_round_2 L_form_round_2 (fun σ => C_form_round_2.mk (gInt (gTm σ 10))) (fun c x => { tm := spT 145 0 [(4, .own 4 0), (10, .val (.int .i64 c.t10)), (14, .val (.int .u64 x.t14))], own := spO 145 0 [(4, ⟨179, .fixed [.val (.int .i64 p0.size), .val (.int .i64 p0.low), .val (.int .i64 p0.top)]⟩)] }) I2 (.seq (.reg [A 99 2, A 100 0, ⟨101, 2, true⟩, A 102 2, A 103 0, A 104 0, A 105 20, ⟨106, 2, true⟩, A 107 2, A 108 0, ⟨109, 2, true⟩, A 110 2, A 111 0, ⟨112, 2, true⟩, A 113 2, A 114 0, ⟨115, 2, true⟩, A 116 2, A 117 0, A 118 0, A 119 20, A 120 20, A 121 20, A 122 20]) (.cond (.reg [A 123 2, A 124 0, A 14 2]) .leaf)) (.cut C_form_round_3 L_form_round_3 (fun σ => C_form_round_3.mk (gInt (gTm σ 10)) (gInt (gTm σ 14))) (fun c x => { tm := spT 145 0 [(10, .val (.int .i64 c.t10)), (14, .val (.int .u64 c.t14))], own := spO 145 0 [] }) I3 (.seq (.reg [A 125 2, A 126 7, A 4 4, A 128 12, A 129 0, ⟨130, 2, true⟩, A 131 2, A 132 7, A 4 4, A 134 7, A 4 4, A 136 0, A 137 0, A 138 0, A 139 20]) (.cond (.seq (.reg [A 140 10, A 8 2]) .leaf) .leaf)) (.seq (.reg [A 141 2, A 142 0, A 143 2, A 144 10, A 8 2]) .leaf))))))))))))))
 (Eq.mpr (by kernel_rfl) (show form_round_sk p0 p1 p2 p3 V R I0 I1 I2 I3 (fun c w V => ∃ x, form_round_f0 p0 p1 p2 p3 c w x ∧ I0 c x V) (fun c w V => ∃ x, form_round_f1 p0 p3 c w x ∧ I1 c x V) (fun c w V y U => ∃ x, form_round_f1 p0 p3 c w x ∧ I1 c x V ∧ J1 c x V < J1 c y U) (fun c w V => ∃ x, form_round_f2 p0 c w x ∧ I2 c x V) (fun c w V => ∃ x, form_round_f3  c w x ∧ I3 c x V) from by
 have h := Eq.mpr e h; unfold form_round_sk at h ⊢; have Ee0 := fun c w V (h : I0 c w V) => (⟨w, ⟨⟨rfl, rfl, rfl, rfl, rfl, trivial⟩, ⟨rfl, trivial⟩⟩, h⟩ : ∃ x, form_round_f0 p0 p1 p2 p3 c w x ∧ I0 c x V); have Ee1 := fun c w V (h : I1 c w V) => (⟨w, ⟨⟨rfl, rfl, rfl, rfl, rfl, rfl, rfl, rfl, rfl, trivial⟩, ⟨rfl, trivial⟩⟩, h⟩ : ∃ x, form_round_f1 p0 p3 c w x ∧ I1 c x V); have Bb1 := fun c w V y U (h : I1 c w V ∧ J1 c w V < J1 c y U) => (⟨w, ⟨⟨rfl, rfl, rfl, rfl, rfl, rfl, rfl, rfl, rfl, trivial⟩, ⟨rfl, trivial⟩⟩, h⟩ : ∃ x, form_round_f1 p0 p3 c w x ∧ I1 c x V ∧ J1 c x V < J1 c y U); have Ee2 := fun c w V (h : I2 c w V) => (⟨w, ⟨⟨rfl, rfl, rfl, trivial⟩, ⟨rfl, trivial⟩⟩, h⟩ : ∃ x, form_round_f2 p0 c w x ∧ I2 c x V); have Ee3 := fun c w V (h : I3 c w V) => (⟨w, ⟨⟨rfl, rfl, trivial⟩, trivial⟩, h⟩ : ∃ x, form_round_f3  c w x ∧ I3 c x V); exact ⟨fun h55 => (h.1 h55), fun h55 => (CallV.mono (h.2 h55) (fun _ _ _ ⟨r1, h54, h53⟩ => ⟨r1, h54, (CallV.mono h53 (fun _ _ _ ⟨r2, h52, h51⟩ => ⟨r2, h52, ⟨(CallV.mono h51.1 (fun _ _ _ ⟨r3, h7, h6⟩ => ⟨r3, h7, (CallV.mono h6 (fun _ _ _ ⟨r4, h5, h4⟩ => ⟨r4, h5, (CallV.mono h4 (fun _ _ _ ⟨r5, h3, h2⟩ => ⟨r5, h3, ⟨fun h1 => (Ee0 _ _ _ (h2.1 h1)), fun h1 => (Ee0 _ _ _ (h2.2 h1))⟩⟩))⟩))⟩)), fun x1 V3 h49 h50 => ⟨fun h48 => ⟨fun h12 => ⟨(((h51.2 x1 V3 h49 h50).1 h48).1 h12).1, (CallV.mono (((h51.2 x1 V3 h49 h50).1 h48).1 h12).2 (fun _ _ _ ⟨r6, h9, h8⟩ => ⟨r6, h9, h8⟩))⟩, fun h12 => (CallV.mono (((h51.2 x1 V3 h49 h50).1 h48).2 h12) (fun _ _ _ ⟨r7, h11, h10⟩ => ⟨r7, h11, h10⟩))⟩, fun h48 => (CallV.mono ((h51.2 x1 V3 h49 h50).2 h48) (fun _ _ _ ⟨r8, h47, h46⟩ => ⟨r8, h47, (CallV.mono h46 (fun _ _ _ ⟨r9, h45, h44⟩ => ⟨r9, h45, (CallV.mono h44 (fun _ _ _ ⟨r10, r11, h43, h42⟩ => ⟨r10, r11, h43, ⟨(Ee1 _ _ _ h42.1), fun x5 V12 h40 h41 => ⟨fun h39 => ⟨((h42.2 x5 V12 h40 h41).1 h39).1, (match ((h42.2 x5 V12 h40 h41).1 h39).2 with | ⟨x6, h14, h13⟩ => ⟨x6, h14, ⟨h13.1, (Bb1 _ _ _ _ _ h13.2)⟩⟩)⟩, fun h39 => (CallV.mono ((h42.2 x5 V12 h40 h41).2 h39) (fun _ _ _ ⟨r12, h38, h37⟩ => ⟨r12, h38, (CallV.mono h37 (fun _ _ _ ⟨r13, h36, h35⟩ => ⟨r13, h36, ⟨⟨fun h24 => ⟨fun h19 => (Ee2 _ _ _ ((h35.1.1 h24).1 h19)), fun h19 => ⟨fun h18 => ⟨fun h17 => (Ee2 _ _ _ ((((h35.1.1 h24).2 h19).1 h18).1 h17)), fun h17 => ⟨fun h16 => ⟨fun h15 => (Ee2 _ _ _ ((((((h35.1.1 h24).2 h19).1 h18).2 h17).1 h16).1 h15)), fun h15 => (Ee2 _ _ _ ((((((h35.1.1 h24).2 h19).1 h18).2 h17).1 h16).2 h15))⟩, fun h16 => (Ee2 _ _ _ (((((h35.1.1 h24).2 h19).1 h18).2 h17).2 h16))⟩⟩, fun h18 => (Ee2 _ _ _ (((h35.1.1 h24).2 h19).2 h18))⟩⟩, fun h24 => ⟨fun h23 => ⟨fun h22 => (Ee2 _ _ _ (((h35.1.2 h24).1 h23).1 h22)), fun h22 => ⟨fun h21 => ⟨fun h20 => (Ee2 _ _ _ (((((h35.1.2 h24).1 h23).2 h22).1 h21).1 h20)), fun h20 => (Ee2 _ _ _ (((((h35.1.2 h24).1 h23).2 h22).1 h21).2 h20))⟩, fun h21 => (Ee2 _ _ _ ((((h35.1.2 h24).1 h23).2 h22).2 h21))⟩⟩, fun h23 => (Ee2 _ _ _ ((h35.1.2 h24).2 h23))⟩⟩, fun x8 V15 h33 h34 => ⟨⟨(h35.2 x8 V15 h33 h34).1.1, ⟨fun h28 => ⟨fun h27 => (CallV.mono (((h35.2 x8 V15 h33 h34).1.2.1 h28).1 h27) (fun _ _ _ ⟨r14, h26, h25⟩ => ⟨r14, h26, h25⟩)), fun h27 => (Ee3 _ _ _ (((h35.2 x8 V15 h33 h34).1.2.1 h28).2 h27))⟩, fun h28 => (Ee3 _ _ _ ((h35.2 x8 V15 h33 h34).1.2.2 h28))⟩⟩, fun x20 V16 h31 h32 => (CallV.mono ((h35.2 x8 V15 h33 h34).2 x20 V16 h31 h32) (fun _ _ _ ⟨r15, h30, h29⟩ => ⟨r15, h30, h29⟩))⟩⟩⟩))⟩))⟩⟩⟩))⟩))⟩))⟩⟩⟩))⟩))⟩))

theorem form_round_vc : type_of% (fun p0 p1 p2 p3 V R I0 I1 J1 I2 I3 => form_round_v0 p0 p1 p2 p3 V R I0 I1 J1 I2 I3 (form_round_sk.eq_1 ..)) := fun p0 p1 p2 p3 V R I0 I1 J1 I2 I3 => form_round_v0 p0 p1 p2 p3 V R I0 I1 J1 I2 I3 (form_round_sk.eq_1 ..)

theorem form_signed_vc (p0 : FormV) (p1 : WhV) (p2 : Sl) (p3 : Int) (V : View) (R : Value → View → Prop) 
 (h :
 ((!p1.neg) = true →
 CallV Tryz.prog 212 #[p0.val, p1.mag.v, p2.v, .int .i64 p3] V fun v V1 => ∃ r1 : Nat, v = .float .f64 r1 ∧
 R (.float .f64 r1) V1) ∧
 ((!p1.neg) = false →
 (((p3 : Int) != 2) = true →
 CallV Tryz.prog 212 #[p0.val, p1.mag.v, p2.v, .int .i64 (i64.wrap (1 - p3))] V fun v V2 => ∃ r2 : Nat, v = .float .f64 r2 ∧
 ((FloatKind.f64.format.order r2 0 != some .eq) = true →
 R (.float .f64 (Op.negFloat .f64 r2)) V2) ∧
 ((FloatKind.f64.format.order r2 0 != some .eq) = false →
 R (.float .f64 0) V2)) ∧
 (((p3 : Int) != 2) = false →
 CallV Tryz.prog 212 #[p0.val, p1.mag.v, p2.v, .int .i64 p3] V fun v V3 => ∃ r3 : Nat, v = .float .f64 r3 ∧
 ((FloatKind.f64.format.order r3 0 != some .eq) = true →
 R (.float .f64 (Op.negFloat .f64 r3)) V3) ∧
 ((FloatKind.f64.format.order r3 0 != some .eq) = false →
 R (.float .f64 0) V3)))) :
 CallV Tryz.prog 141 #[p0.val, p1.val, p2.v, .int .i64 p3] V R :=
 calls_of_vc (Shp := Shp) hmixed Tryz.func141 (c := Tryz.f141.body.getD .skip) (args := [p0.val, p1.val, p2.v, .int .i64 p3]) (by kernel_rfl)
 (.seq (.reg [A 4 3, A 5 3, A 8 2]) (.seq (.seq (.reg [A 10 7, A 5 4, A 12 20]) (.cond (.seq (.reg [A 4 4, A 14 7, A 5 4, A 16 2, A 17 2, A 18 10, A 8 2]) .leaf) .leaf)) (.seq (.seq (.reg [A 19 2, A 20 0]) (.cond (.reg [A 21 2, A 22 0, A 3 2]) .leaf)) (.seq (.seq (.reg [A 4 4, A 24 7, A 5 4, A 26 2, A 27 2, A 28 10, A 9 2]) (.seq (.reg [A 29 2, A 30 0]) (.cond (.seq (.reg [A 31 2, A 32 0, A 8 2]) .leaf) .leaf))) (.seq (.reg [A 8 2]) .leaf)))))
 (Eq.mpr (by kernel_rfl) h)

theorem Num_Below_vc (p0 : NumV) (V : View) (R : Value → View → Prop) 
 (h :
 CallV Tryz.prog 140 #[] V fun v V1 => ∃ r1 : FormV, v = r1.val ∧
 CallV Tryz.prog 142 #[p0.val] V1 fun v V2 => ∃ r2 : Sl, v = r2.v ∧
 CallV Tryz.prog 141 #[r1.val, p0.re.val, r2.v, .int .i64 0] V2 fun v V3 => ∃ r3 : Nat, v = .float .f64 r3 ∧
 R (.float .f64 r3) V3) :
 CallV Tryz.prog 186 #[p0.val] V R :=
 calls_of_vc (Shp := Shp) hmixed Tryz.func186 (c := Tryz.f186.body.getD .skip) (args := [p0.val]) (by kernel_rfl)
 (.seq (.reg [A 1 3, A 2 2]) (.seq (.draw [(1, A 4 7), (2, A 1 4), (3, A 1 4), (0, A 3 10), (4, A 7 10), (5, A 8 10), (6, A 2 2)] [0, 0, 2, 0, 9, 31, 63]) .leaf))
 (Eq.mpr (by kernel_rfl) h)

theorem Num_Above_vc (p0 : NumV) (V : View) (R : Value → View → Prop) 
 (h :
 CallV Tryz.prog 140 #[] V fun v V1 => ∃ r1 : FormV, v = r1.val ∧
 CallV Tryz.prog 142 #[p0.val] V1 fun v V2 => ∃ r2 : Sl, v = r2.v ∧
 CallV Tryz.prog 141 #[r1.val, p0.re.val, r2.v, .int .i64 1] V2 fun v V3 => ∃ r3 : Nat, v = .float .f64 r3 ∧
 R (.float .f64 r3) V3) :
 CallV Tryz.prog 187 #[p0.val] V R :=
 calls_of_vc (Shp := Shp) hmixed Tryz.func187 (c := Tryz.f187.body.getD .skip) (args := [p0.val]) (by kernel_rfl)
 (.seq (.reg [A 1 3, A 2 2]) (.seq (.draw [(1, A 4 7), (2, A 1 4), (3, A 1 4), (0, A 3 10), (4, A 7 10), (5, A 8 10), (6, A 2 2)] [0, 0, 2, 0, 9, 31, 63]) .leaf))
 (Eq.mpr (by kernel_rfl) h)

end Go.Proofs.YtkibfmnkkiakoaaGreat
