/- Part of the proof; it has the parts GMsN. -/
import Derived.Test.YtefkpimcffofaaaGreatGMtN
set_option maxRecDepth 100000
set_option maxHeartbeats 4000000
namespace Go.Proofs.YtefkpimcffofaaaGreat
open Go Go.Vc Go.Proofs
open Go.IntKind (i8 i16 i32 i64 u8 u16 u32 u64)

structure L_num_Solve_num_Num__0 where
 u : Unit
structure L_num_Solve_num_Num__1 where
 t10 : Int
 o37 : List Value
structure C_num_Solve_num_Num__1 where
 t0 : Sl
structure L_num_Solve_num_Num__2 where
 t12 : Int
 o11 : NumV
 o37 : List Value
structure C_num_Solve_num_Num__2 where
 t0 : Sl
 t10 : Int
def num_Solve_num_Num__f0 (p0 : Sl) (p1 : Sl) (_c : Unit) (_w _x : L_num_Solve_num_Num__0) : Prop := (Q1 (.val (p0.v)) ∧ Q1 (.val (p1.v)) ∧ True) ∧ (O2 ⟨0, .reg (fun _ => none : View)⟩ ⟨0, .reg (fun _ => none : View)⟩ ∧ True)
def num_Solve_num_Num__f1 (p0 : Sl) (c : C_num_Solve_num_Num__1) (w x : L_num_Solve_num_Num__1) : Prop := (Q1 (.val (c.t0.v)) ∧ Q1 (.val (.int .i64 (p0.len : Int))) ∧ Q1 (.osl 37 0 (Int.toNat (p0.len : Int)) (Int.toNat (p0.len : Int))) ∧ E2 (.val (.int .i64 w.t10)) (.val (.int .i64 x.t10)) ∧ True) ∧ (O2 ⟨31, .dyn w.o37⟩ ⟨31, .dyn x.o37⟩ ∧ True)
def num_Solve_num_Num__f2 (p0 : Sl) (c : C_num_Solve_num_Num__2) (w x : L_num_Solve_num_Num__2) : Prop := (Q1 (.val (c.t0.v)) ∧ Q1 (.val (.int .i64 (p0.len : Int))) ∧ Q1 (.osl 37 0 (Int.toNat (p0.len : Int)) (Int.toNat (p0.len : Int))) ∧ Q1 (.val (.int .i64 c.t10)) ∧ Q1 (.own 11 0) ∧ E2 (.val (.int .i64 w.t12)) (.val (.int .i64 x.t12)) ∧ True) ∧ (O2 ⟨31, .fixed [.val (.bool w.o11.re.neg), .val (w.o11.re.mag.v), .val (.bool w.o11.im.neg), .val (w.o11.im.mag.v), .val (w.o11.under.v)]⟩ ⟨31, .fixed [.val (.bool x.o11.re.neg), .val (x.o11.re.mag.v), .val (.bool x.o11.im.neg), .val (x.o11.im.mag.v), .val (x.o11.under.v)]⟩ ∧ O2 ⟨31, .dyn w.o37⟩ ⟨31, .dyn x.o37⟩ ∧ True)
def num_Solve_num_Num__sk (p0 : Sl) (p1 : Sl) (V : View) (R : Value → View → Prop) (I0 : Unit → L_num_Solve_num_Num__0 → View → Prop) (I1 : C_num_Solve_num_Num__1 → L_num_Solve_num_Num__1 → View → Prop) (I2 : C_num_Solve_num_Num__2 → L_num_Solve_num_Num__2 → View → Prop) (E0 : Unit → L_num_Solve_num_Num__0 → View → Prop) (E1 : C_num_Solve_num_Num__1 → L_num_Solve_num_Num__1 → View → Prop) (B1 : C_num_Solve_num_Num__1 → L_num_Solve_num_Num__1 → View → L_num_Solve_num_Num__1 → View → Prop) (E2 : C_num_Solve_num_Num__2 → L_num_Solve_num_Num__2 → View → Prop) (B2 : C_num_Solve_num_Num__2 → L_num_Solve_num_Num__2 → View → L_num_Solve_num_Num__2 → View → Prop) : Prop :=
 (CallV Tryz.prog 121 #[p0.v] V fun v V2 => ∃ r1 : Bool, v = .bool r1 ∧
 ((!r1) = true →
 ((0 : Nat) ≠ 1) ∧
 ∀ (V3 : View), View.le V2 V3 → (∀ (b : Nat) (cs : Array Value), (fun _ => none : View) b = some cs → V3 b = some cs) →
 R (.tuple #[(Sl.mk none 0 0).v, .int .i64 4]) V3) ∧
 ((!r1) = false →
 ((((p1.len : Int) : Int) != (p0.len : Int)) = true →
 ((0 : Nat) ≠ 1) ∧
 ∀ (V4 : View), View.le V2 V4 → (∀ (b : Nat) (cs : Array Value), (fun _ => none : View) b = some cs → V4 b = some cs) →
 R (.tuple #[(Sl.mk none 0 0).v, .int .i64 4]) V4) ∧
 ((((p1.len : Int) : Int) != (p0.len : Int)) = false →
 E0 () (L_num_Solve_num_Num__0.mk ()) V2))) ∧
 (∀ (x1 : L_num_Solve_num_Num__0) (V1 : View), View.le V V1 → I0 () x1 V1 →
 ∀ (b3 : Nat) (V5 : View), View.le V1 V5 → View.Fin V5 → V5 b3 = some #[p1.v] →
 CallR Tryz.prog 122 #[p0.v, (Sl.mk (some (Addr.mk b3 0 none)) 1 1).v] (fun _ => none : View) V5 fun v m1 V6 => ∃ r2 : Sl, v = r2.v ∧
 CallR Tryz.prog 123 #[r2.v] m1 V6 fun v m2 V7 => ∃ (r3 : Int) (r4 : Int), v = .tuple #[.int .i64 r3, .int .i64 r4] ∧
 ((0 : Nat) ≠ 1) ∧
 ∀ (V8 : View), View.le V7 V8 → (∀ (b : Nat) (cs : Array Value), m2 b = some cs → V8 b = some cs) →
 ((decide ((r4 : Int) ≥ 0)) = true →
 R (.tuple #[(Sl.mk none 0 0).v, .int .i64 6]) V8) ∧
 ((decide ((r4 : Int) ≥ 0)) = false →
 ((0 : Int) ≤ (p0.len : Int) ∧ ((p0.len : Int) : Int) ≤ (p0.len : Int) ∧ (88 : Int) * (p0.len : Int) ≤ 281474976710656 ∧ ((p0.len : Int) : Int) ≤ 9223372036854775807) ∧
 E1 (C_num_Solve_num_Num__1.mk r2) (L_num_Solve_num_Num__1.mk (i64.wrap ((p0.len : Int) - 1)) ((List.replicate (Int.toNat (p0.len : Int)) [Value.bool false, Value.slice none 0 0, Value.bool false, Value.slice none 0 0, Value.slice none 0 0]).flatten)) V8 ∧
 (∀ (x4 : L_num_Solve_num_Num__1) (V9 : View), View.le V8 V9 → I1 (C_num_Solve_num_Num__1.mk r2) x4 V9 →
 ((decide ((x4.t10 : Int) ≥ 0)) = true →
 ((0 : Int) ≤ x4.t10 ∧ (x4.t10 : Int) < (r2.len : Nat) ∧ Option.isSome r2.a = true) ∧
 ∃ x5 : Sl, View.load V9 (Option.map (fun q => Addr.add q (Int.toNat x4.t10 * 1)) r2.a) = some (x5.v) ∧
 ((0 : Int) ≤ (p0.len : Int) ∧ ((p0.len : Int) : Int) < (x5.len : Nat) ∧ Option.isSome x5.a = true) ∧
 ∃ x6 : NumV, View.has V9 (Option.map (fun q => Addr.add q (Int.toNat (p0.len : Int) * 5)) x5.a) (x6.val).cells.toList ∧ Option.isSome (Option.map (fun q => Addr.add q (Int.toNat (p0.len : Int) * 5)) x5.a) = true ∧
 E2 (C_num_Solve_num_Num__2.mk r2 x4.t10) (L_num_Solve_num_Num__2.mk (i64.wrap (x4.t10 + 1)) x6 x4.o37) V9 ∧
 (∀ (x8 : L_num_Solve_num_Num__2) (V10 : View), View.le V9 V10 → I2 (C_num_Solve_num_Num__2.mk r2 x4.t10) x8 V10 →
 ((decide ((x8.t12 : Int) < (p0.len : Int))) = true →
 ((0 : Int) ≤ x4.t10 ∧ (x4.t10 : Int) < (r2.len : Nat) ∧ Option.isSome r2.a = true) ∧
 ∃ x9 : Sl, View.load V10 (Option.map (fun q => Addr.add q (Int.toNat x4.t10 * 1)) r2.a) = some (x9.v) ∧
 ((0 : Int) ≤ x8.t12 ∧ (x8.t12 : Int) < (x9.len : Nat) ∧ Option.isSome x9.a = true) ∧
 ∃ x10 : NumV, View.has V10 (Option.map (fun q => Addr.add q (Int.toNat x8.t12 * 5)) x9.a) (x10.val).cells.toList ∧ Option.isSome (Option.map (fun q => Addr.add q (Int.toNat x8.t12 * 5)) x9.a) = true ∧
 ((0 : Int) ≤ x8.t12 ∧ (x8.t12 : Int) < (Int.toNat (p0.len : Int) : Nat)) ∧
 ∃ x11 : NumV, List.take 5 (List.drop (0 + Int.toNat x8.t12 * 5) x8.o37) = (x11.val).cells.toList ∧
 CallV Tryz.prog 209 #[x10.val, x11.val] V10 fun v V11 => ∃ r5 : NumV, v = r5.val ∧
 CallV Tryz.prog 17 #[x8.o11.val, r5.val] V11 fun v V12 => ∃ r6 : NumV, v = r6.val ∧
 B2 (C_num_Solve_num_Num__2.mk r2 x4.t10) (L_num_Solve_num_Num__2.mk (i64.wrap (x8.t12 + 1)) r6 x8.o37) V12 x8 V10) ∧
 ((decide ((x8.t12 : Int) < (p0.len : Int))) = false →
 ((0 : Int) ≤ x4.t10 ∧ (x4.t10 : Int) < (r2.len : Nat) ∧ Option.isSome r2.a = true) ∧
 ∃ x13 : Sl, View.load V10 (Option.map (fun q => Addr.add q (Int.toNat x4.t10 * 1)) r2.a) = some (x13.v) ∧
 ((0 : Int) ≤ x4.t10 ∧ (x4.t10 : Int) < (x13.len : Nat) ∧ Option.isSome x13.a = true) ∧
 ∃ x14 : NumV, View.has V10 (Option.map (fun q => Addr.add q (Int.toNat x4.t10 * 5)) x13.a) (x14.val).cells.toList ∧ Option.isSome (Option.map (fun q => Addr.add q (Int.toNat x4.t10 * 5)) x13.a) = true ∧
 CallV Tryz.prog 201 #[x8.o11.val, x14.val] V10 fun v V13 => ∃ (r7 : NumV) (r8 : Int), v = .tuple #[r7.val, .int .i64 r8] ∧
 ((0 : Int) ≤ x4.t10 ∧ (x4.t10 : Int) < (Int.toNat (p0.len : Int) : Nat)) ∧
 0 + Int.toNat x4.t10 * 5 + 5 ≤ List.length x8.o37 ∧
 B1 (C_num_Solve_num_Num__1.mk r2) (L_num_Solve_num_Num__1.mk (i64.wrap (x4.t10 - 1)) (setL x8.o37 (0 + Int.toNat x4.t10 * 5) [.bool r7.re.neg, r7.re.mag.v, .bool r7.im.neg, r7.im.mag.v, r7.under.v])) V13 x4 V9))) ∧
 ((decide ((x4.t10 : Int) ≥ 0)) = false →
 ∀ (b5 : Nat) (V14 : View), View.le V9 V14 → V14 b5 = some (List.toArray x4.o37) →
 R (.tuple #[(Sl.mk (some (Addr.mk b5 0 none)) (Int.toNat (p0.len : Int)) (Int.toNat (p0.len : Int))).v, .int .i64 0]) V14))))

theorem num_Solve_num_Num__v0 (p0 : Sl) (p1 : Sl) (V : View) (R : Value → View → Prop) (I0 : Unit → L_num_Solve_num_Num__0 → View → Prop) (I1 : C_num_Solve_num_Num__1 → L_num_Solve_num_Num__1 → View → Prop) (J1 : C_num_Solve_num_Num__1 → L_num_Solve_num_Num__1 → View → Nat) (I2 : C_num_Solve_num_Num__2 → L_num_Solve_num_Num__2 → View → Prop) (J2 : C_num_Solve_num_Num__2 → L_num_Solve_num_Num__2 → View → Nat) {X : Prop} (e : num_Solve_num_Num__sk p0 p1 V R I0 I1 I2 I0 I1 (fun c w V x U => I1 c w V ∧ J1 c w V < J1 c x U) I2 (fun c w V x U => I2 c w V ∧ J2 c w V < J2 c x U) = X) (h : X) :
 CallV Tryz.prog 26 #[p0.v, p1.v] V R :=
 calls_of_vc (Shp := Shp) hmixed Tryz.func26 (c := Tryz.f26.body.getD .skip) (args := [p0.v, p1.v]) (by kernel_rfl)
 (.newR 0 0 (.seq (.reg [A 4 2, A 5 2]) (.cut Unit L_num_Solve_num_Num__0 (fun _ => ()) (fun c x => { tm := spT 91 0 [(0, .val (p0.v)), (1, .val (p1.v))], own := spO 91 0 [(0, ⟨0, .reg (fun _ => none : View)⟩)] }) I0 (.seq (.reg [A 13 2, A 14 10, A 15 20, ⟨16, 2, true⟩, A 17 2, A 18 0, A 19 2, A 20 0, A 21 0, A 22 20]) (.cond (.seq (.reg [A 4 2, A 5 2]) (.pubR 0 .leaf)) .leaf)) (.seq (.reg [A 23 2, A 24 0, A 6 2]) (.seq (.reg [A 25 2, A 26 2, A 27 11, A 0 24, A 0 2]) (.seq (.seq (.reg [A 30 2, A 0 24, A 29 2, A 32 0, A 33 0, A 7 2, A 8 2]) (.seq (.pubR 0 (.reg [A 34 2, A 35 0])) (.cond (.seq (.reg [A 4 2, A 5 2]) .leaf) .leaf))) (.seq (.reg [A 36 2, A 37 3, A 9 2]) (.seq (.seq (.reg [A 38 2, A 39 0, A 10 2]) (.block (.loop C_num_Solve_num_Num__1 L_num_Solve_num_Num__1 (fun σ => C_num_Solve_num_Num__1.mk (Sl.mk (gSlA (gTm σ 0)) (gSlL (gTm σ 0)) (gSlC (gTm σ 0)))) (fun c x => { tm := spT 91 0 [(0, .val (c.t0.v)), (6, .val (.int .i64 (p0.len : Int))), (9, .osl 37 0 (Int.toNat (p0.len : Int)) (Int.toNat (p0.len : Int))), (10, .val (.int .i64 x.t10))], own := spO 91 0 [(37, ⟨31, .dyn x.o37⟩)] }) I1 J1 (.seq (.seq (.reg [A 40 2, A 41 0]) (.cond .leaf .leaf)) (.seq (.block (.seq (.reg [A 44 2, A 45 2, A 46 7, A 47 5, A 48 2, A 49 7, A 50 5, A 11 3, A 11 6]) (.seq (.seq (.reg [A 51 2, A 52 0, A 12 2]) (.block (.loop C_num_Solve_num_Num__2 L_num_Solve_num_Num__2 (fun σ => C_num_Solve_num_Num__2.mk (Sl.mk (gSlA (gTm σ 0)) (gSlL (gTm σ 0)) (gSlC (gTm σ 0))) (gInt (gTm σ 10))) (fun c x => { tm := spT 91 0 [(0, .val (c.t0.v)), (6, .val (.int .i64 (p0.len : Int))), (9, .osl 37 0 (Int.toNat (p0.len : Int)) (Int.toNat (p0.len : Int))), (10, .val (.int .i64 c.t10)), (11, .own 11 0), (12, .val (.int .i64 x.t12))], own := spO 91 0 [(11, ⟨31, .fixed [.val (.bool x.o11.re.neg), .val (x.o11.re.mag.v), .val (.bool x.o11.im.neg), .val (x.o11.im.mag.v), .val (x.o11.under.v)]⟩), (37, ⟨31, .dyn x.o37⟩)] }) I2 J2 (.seq (.seq (.reg [A 53 2, A 54 2, A 55 0]) (.cond .leaf .leaf)) (.seq (.block (.draw [(0, A 11 4), (1, A 59 0), (2, A 60 2), (3, A 61 2), (4, A 62 7), (5, A 63 5), (6, A 64 2), (7, A 65 7), (8, A 66 5), (9, A 67 0), (10, A 68 2), (11, A 69 2), (12, A 70 7), (13, A 37 4), (14, A 72 10), (15, A 73 10), (16, A 11 6)] [0, 1, 0, 0, 12, 28, 0, 124, 252, 508, 0, 0, 3072, 7168, 16380, 32767, 65535])) (.reg [A 56 2, A 57 0, A 12 2])))))) (.draw [(0, A 75 2), (1, A 76 2), (2, A 11 4), (3, A 78 0), (4, A 79 2), (5, A 80 2), (6, A 81 7), (7, A 82 5), (8, A 83 2), (9, A 84 7), (10, A 85 5), (11, A 86 10), (12, A 74 2), (13, A 87 0), (14, A 88 0), (15, A 89 7), (16, A 37 6)] [0, 0, 0, 4, 0, 0, 48, 112, 0, 496, 1008, 2044, 4092, 8188, 8188, 16383, 49151])))) (.reg [A 42 2, A 43 0, A 10 2])))))) (.seq (.reg [A 90 2, A 4 2, A 5 2]) (.pub 37 .leaf))))))))))
 (Eq.mpr (by kernel_rfl) (show num_Solve_num_Num__sk p0 p1 V R I0 I1 I2 (fun c w V => ∃ x, num_Solve_num_Num__f0 p0 p1 c w x ∧ I0 c x V) (fun c w V => ∃ x, num_Solve_num_Num__f1 p0 c w x ∧ I1 c x V) (fun c w V y U => ∃ x, num_Solve_num_Num__f1 p0 c w x ∧ I1 c x V ∧ J1 c x V < J1 c y U) (fun c w V => ∃ x, num_Solve_num_Num__f2 p0 c w x ∧ I2 c x V) (fun c w V y U => ∃ x, num_Solve_num_Num__f2 p0 c w x ∧ I2 c x V ∧ J2 c x V < J2 c y U) from by
 have h := Eq.mpr e h; unfold num_Solve_num_Num__sk at h ⊢; have Ee0 := fun c w V (h : I0 c w V) => (⟨w, ⟨⟨rfl, rfl, trivial⟩, ⟨rfl, trivial⟩⟩, h⟩ : ∃ x, num_Solve_num_Num__f0 p0 p1 c w x ∧ I0 c x V); have Ee1 := fun c w V (h : I1 c w V) => (⟨w, ⟨⟨rfl, rfl, rfl, rfl, trivial⟩, ⟨rfl, trivial⟩⟩, h⟩ : ∃ x, num_Solve_num_Num__f1 p0 c w x ∧ I1 c x V); have Bb1 := fun c w V y U (h : I1 c w V ∧ J1 c w V < J1 c y U) => (⟨w, ⟨⟨rfl, rfl, rfl, rfl, trivial⟩, ⟨rfl, trivial⟩⟩, h⟩ : ∃ x, num_Solve_num_Num__f1 p0 c w x ∧ I1 c x V ∧ J1 c x V < J1 c y U); have Ee2 := fun c w V (h : I2 c w V) => (⟨w, ⟨⟨rfl, rfl, rfl, rfl, rfl, rfl, trivial⟩, ⟨rfl, rfl, trivial⟩⟩, h⟩ : ∃ x, num_Solve_num_Num__f2 p0 c w x ∧ I2 c x V); have Bb2 := fun c w V y U (h : I2 c w V ∧ J2 c w V < J2 c y U) => (⟨w, ⟨⟨rfl, rfl, rfl, rfl, rfl, rfl, trivial⟩, ⟨rfl, rfl, trivial⟩⟩, h⟩ : ∃ x, num_Solve_num_Num__f2 p0 c w x ∧ I2 c x V ∧ J2 c x V < J2 c y U); exact ⟨(CallV.mono h.1 (fun _ _ _ ⟨r1, h8, h7⟩ => ⟨r1, h8, ⟨fun h6 => ⟨(h7.1 h6).1, (fun V3 h1 h2 => ((h7.1 h6).2 V3 h1 h2))⟩, fun h6 => ⟨fun h5 => ⟨((h7.2 h6).1 h5).1, (fun V4 h3 h4 => (((h7.2 h6).1 h5).2 V4 h3 h4))⟩, fun h5 => (Ee0 _ _ _ ((h7.2 h6).2 h5))⟩⟩⟩)), fun x1 V1 h50 h51 => (fun b3 V5 h47 h48 h49 => (CallR.mono ((h.2 x1 V1 h50 h51) b3 V5 h47 h48 h49) (fun _ m1 V6 _ _ ⟨r2, h46, h45⟩ => ⟨r2, h46, (CallR.mono h45 (fun _ m2 V7 _ _ ⟨r3, r4, h44, h43⟩ => ⟨r3, r4, h44, ⟨h43.1, (fun V8 h41 h42 => ⟨fun h40 => ((h43.2 V8 h41 h42).1 h40), fun h40 => ⟨((h43.2 V8 h41 h42).2 h40).1, ⟨(Ee1 _ _ _ ((h43.2 V8 h41 h42).2 h40).2.1), fun x4 V9 h38 h39 => ⟨fun h37 => ⟨((((h43.2 V8 h41 h42).2 h40).2.2 x4 V9 h38 h39).1 h37).1, (match ((((h43.2 V8 h41 h42).2 h40).2.2 x4 V9 h38 h39).1 h37).2 with | ⟨x5, h34, h33⟩ => ⟨x5, h34, ⟨h33.1, (match h33.2 with | ⟨x6, h31, h32, h30⟩ => ⟨x6, h31, h32, ⟨(Ee2 _ _ _ h30.1), fun x8 V10 h28 h29 => ⟨fun h27 => ⟨((h30.2 x8 V10 h28 h29).1 h27).1, (match ((h30.2 x8 V10 h28 h29).1 h27).2 with | ⟨x9, h19, h18⟩ => ⟨x9, h19, ⟨h18.1, (match h18.2 with | ⟨x10, h16, h17, h15⟩ => ⟨x10, h16, h17, ⟨h15.1, (match h15.2 with | ⟨x11, h14, h13⟩ => ⟨x11, h14, (CallV.mono h13 (fun _ _ _ ⟨r5, h12, h11⟩ => ⟨r5, h12, (CallV.mono h11 (fun _ _ _ ⟨r6, h10, h9⟩ => ⟨r6, h10, (Bb2 _ _ _ _ _ h9)⟩))⟩))⟩)⟩⟩)⟩⟩)⟩, fun h27 => ⟨((h30.2 x8 V10 h28 h29).2 h27).1, (match ((h30.2 x8 V10 h28 h29).2 h27).2 with | ⟨x13, h26, h25⟩ => ⟨x13, h26, ⟨h25.1, (match h25.2 with | ⟨x14, h23, h24, h22⟩ => ⟨x14, h23, h24, (CallV.mono h22 (fun _ _ _ ⟨r7, r8, h21, h20⟩ => ⟨r7, r8, h21, ⟨h20.1, ⟨h20.2.1, (Bb1 _ _ _ _ _ h20.2.2)⟩⟩⟩))⟩)⟩⟩)⟩⟩⟩⟩)⟩⟩)⟩, fun h37 => (fun b5 V14 h35 h36 => (((((h43.2 V8 h41 h42).2 h40).2.2 x4 V9 h38 h39).2 h37) b5 V14 h35 h36))⟩⟩⟩⟩)⟩⟩))⟩)))⟩))

theorem num_Solve_num_Num__vc : type_of% (fun p0 p1 V R I0 I1 J1 I2 J2 => num_Solve_num_Num__v0 p0 p1 V R I0 I1 J1 I2 J2 (num_Solve_num_Num__sk.eq_1 ..)) := fun p0 p1 V R I0 I1 J1 I2 J2 => num_Solve_num_Num__v0 p0 p1 V R I0 I1 J1 I2 J2 (num_Solve_num_Num__sk.eq_1 ..)

end Go.Proofs.YtefkpimcffofaaaGreat
