/- Part of the proof; it has the parts GMl. -/
import Derived.Test.YtefkpimcffofaaaGreatGMsN
set_option maxRecDepth 100000
set_option maxHeartbeats 4000000
namespace Go.Proofs.YtefkpimcffofaaaGreat
open Go Go.Vc Go.Proofs
open Go.IntKind (i8 i16 i32 i64 u8 u16 u32 u64)

structure L_num_Adjoint_num_Num__0 where
 t20 : Int
 o0 : View
 o17 : List Value
structure C_num_Adjoint_num_Num__0 where
 t6l : Nat
 t6c : Nat
 t19 : Int
structure L_num_Adjoint_num_Num__1 where
 t25 : Int
 o0 : View
 o17 : List Value
structure C_num_Adjoint_num_Num__1 where
 t6l : Nat
 t6c : Nat
 t7 : Int
 t19 : Int
 t20 : Int
def num_Adjoint_num_Num__f0 (p0 : Sl) (c : C_num_Adjoint_num_Num__0) (w x : L_num_Adjoint_num_Num__0) : Prop := (Q1 (.val (p0.v)) ∧ Q1 (.osl 17 0 c.t6l c.t6c) ∧ Q1 (.val (.int .i64 c.t19)) ∧ E2 (.val (.int .i64 w.t20)) (.val (.int .i64 x.t20)) ∧ True) ∧ (O2 ⟨0, .reg w.o0⟩ ⟨0, .reg x.o0⟩ ∧ O2 ⟨45, .dyn w.o17⟩ ⟨45, .dyn x.o17⟩ ∧ True)
def num_Adjoint_num_Num__f1 (p0 : Sl) (c : C_num_Adjoint_num_Num__1) (w x : L_num_Adjoint_num_Num__1) : Prop := (Q1 (.val (p0.v)) ∧ Q1 (.osl 17 0 c.t6l c.t6c) ∧ Q1 (.val (.int .i64 c.t7)) ∧ Q1 (.val (.int .i64 c.t19)) ∧ Q1 (.val (.int .i64 c.t20)) ∧ Q1 (.val (.int .i64 (p0.len : Int))) ∧ E2 (.val (.int .i64 w.t25)) (.val (.int .i64 x.t25)) ∧ True) ∧ (O2 ⟨0, .reg w.o0⟩ ⟨0, .reg x.o0⟩ ∧ O2 ⟨45, .dyn w.o17⟩ ⟨45, .dyn x.o17⟩ ∧ True)
def num_Adjoint_num_Num__sk (p0 : Sl) (V : View) (R : Value → View → Prop) (I0 : C_num_Adjoint_num_Num__0 → L_num_Adjoint_num_Num__0 → View → Prop) (I1 : C_num_Adjoint_num_Num__1 → L_num_Adjoint_num_Num__1 → View → Prop) (E0 : C_num_Adjoint_num_Num__0 → L_num_Adjoint_num_Num__0 → View → Prop) (B0 : C_num_Adjoint_num_Num__0 → L_num_Adjoint_num_Num__0 → View → L_num_Adjoint_num_Num__0 → View → Prop) (E1 : C_num_Adjoint_num_Num__1 → L_num_Adjoint_num_Num__1 → View → Prop) (B1 : C_num_Adjoint_num_Num__1 → L_num_Adjoint_num_Num__1 → View → L_num_Adjoint_num_Num__1 → View → Prop) : Prop :=
 CallV Tryz.prog 236 #[p0.v] V fun v V1 => ∃ (r1 : Int) (r2 : Bool), v = .tuple #[.int .i64 r1, .bool r2] ∧
 ((!r2) = true →
 ((0 : Nat) ≠ 1) ∧
 ∀ (V2 : View), View.le V1 V2 → (∀ (b : Nat) (cs : Array Value), (fun _ => none : View) b = some cs → V2 b = some cs) →
 R (.tuple #[(Sl.mk none 0 0).v, .int .i64 4]) V2) ∧
 ((!r2) = false →
 ((0 : Int) ≤ r1 ∧ (r1 : Int) ≤ r1 ∧ (24 : Int) * r1 ≤ 281474976710656 ∧ (r1 : Int) ≤ 9223372036854775807) ∧
 E0 (C_num_Adjoint_num_Num__0.mk (Int.toNat r1) (Int.toNat r1) ((Int.toNat r1 : Nat) : Int)) (L_num_Adjoint_num_Num__0.mk 0 (fun _ => none : View) ((List.replicate (Int.toNat r1) [Value.slice none 0 0]).flatten)) V1 ∧
 (∀ (x2 : L_num_Adjoint_num_Num__0) (V3 : View), View.le V1 V3 → I0 (C_num_Adjoint_num_Num__0.mk (Int.toNat r1) (Int.toNat r1) ((Int.toNat r1 : Nat) : Int)) x2 V3 →
 ((decide ((x2.t20 : Int) < ((Int.toNat r1 : Nat) : Int))) = true →
 E1 (C_num_Adjoint_num_Num__1.mk (Int.toNat r1) (Int.toNat r1) x2.t20 ((Int.toNat r1 : Nat) : Int) x2.t20) (L_num_Adjoint_num_Num__1.mk 0 x2.o0 x2.o17) V3 ∧
 (∀ (x4 : L_num_Adjoint_num_Num__1) (V4 : View), View.le V3 V4 → I1 (C_num_Adjoint_num_Num__1.mk (Int.toNat r1) (Int.toNat r1) x2.t20 ((Int.toNat r1 : Nat) : Int) x2.t20) x4 V4 →
 ((decide ((x4.t25 : Int) < (p0.len : Int))) = true →
 ((0 : Int) ≤ x2.t20 ∧ (x2.t20 : Int) < (Int.toNat r1 : Nat)) ∧
 ∃ x5 : Sl, x4.o17[0 + Int.toNat x2.t20 * 1]? = some (x5.v) ∧
 ((0 : Int) ≤ x4.t25 ∧ (x4.t25 : Int) < (p0.len : Nat) ∧ Option.isSome p0.a = true) ∧
 ∃ x6 : Sl, load2 x4.o0 V4 (Option.map (fun q => Addr.add q (Int.toNat x4.t25 * 1)) p0.a) (x6.v) ∧
 ((0 : Int) ≤ x2.t20 ∧ (x2.t20 : Int) < (x6.len : Nat) ∧ Option.isSome x6.a = true) ∧
 ∃ x7 : NumV, has2 x4.o0 V4 (Option.map (fun q => Addr.add q (Int.toNat x2.t20 * 5)) x6.a) (x7.val).cells.toList ∧ Option.isSome (Option.map (fun q => Addr.add q (Int.toNat x2.t20 * 5)) x6.a) = true ∧
 CallV Tryz.prog 399 #[x7.val] V4 fun v V5 => ∃ r3 : NumV, v = r3.val ∧
 ∀ (b2 : Nat) (V6 : View), View.le V5 V6 → View.Fin V6 → V6 b2 = some #[.bool r3.re.neg, r3.re.mag.v, .bool r3.im.neg, r3.im.mag.v, r3.under.v] →
 ∃ (l2 : List Value) (l3 : List Value), ((x5.len : Nat) ≤ x5.cap ∧ (x5.a = none → (x5.cap : Nat) = 0)) ∧ has2 x4.o0 V6 x5.a l2 ∧ List.length l2 = x5.len * 5 ∧ has2 x4.o0 V6 (some (Addr.mk b2 0 none)) l3 ∧ List.length l3 = 1 * 5 ∧ (∀ v ∈ l3, Value.oneCell' v = true) ∧ x5.len + 1 ≤ maxLen ∧ (x5.len + 1) * 88 ≤ 140737488355328 ∧ ((1 : Nat) ≠ 0 → x5.len + 1 ≤ x5.cap → ∃ (b3 c2 : Nat) (l4 : List Value), x5.a = some (Addr.mk b3 c2 none) ∧ x4.o0 b3 = some (List.toArray l4) ∧ c2 + (x5.len + 1) * 5 ≤ List.length l4) ∧
 ∀ (a1 : Option Addr) (c1 : Nat) (m1 : View), AppR x4.o0 V6 x5.a x5.len x5.cap 1 5 l2 l3 a1 c1 m1 →
 ((0 : Int) ≤ x2.t20 ∧ (x2.t20 : Int) < (Int.toNat r1 : Nat)) ∧
 0 + Int.toNat x2.t20 * 1 + 1 ≤ List.length x4.o17 ∧
 B1 (C_num_Adjoint_num_Num__1.mk (Int.toNat r1) (Int.toNat r1) x2.t20 ((Int.toNat r1 : Nat) : Int) x2.t20) (L_num_Adjoint_num_Num__1.mk (i64.wrap (x4.t25 + 1)) m1 (List.set x4.o17 (0 + Int.toNat x2.t20 * 1) (.slice a1 (x5.len + 1) c1))) V6 x4 V4) ∧
 ((decide ((x4.t25 : Int) < (p0.len : Int))) = false →
 B0 (C_num_Adjoint_num_Num__0.mk (Int.toNat r1) (Int.toNat r1) ((Int.toNat r1 : Nat) : Int)) (L_num_Adjoint_num_Num__0.mk (i64.wrap (x2.t20 + 1)) x4.o0 x4.o17) V4 x2 V3))) ∧
 ((decide ((x2.t20 : Int) < ((Int.toNat r1 : Nat) : Int))) = false →
 ((0 : Nat) ≠ 1) ∧
 ∀ (V7 : View), View.le V3 V7 → (∀ (b : Nat) (cs : Array Value), x2.o0 b = some cs → V7 b = some cs) →
 ∀ (b5 : Nat) (V8 : View), View.le V7 V8 → V8 b5 = some (List.toArray x2.o17) →
 R (.tuple #[(Sl.mk (some (Addr.mk b5 0 none)) (Int.toNat r1) (Int.toNat r1)).v, .int .i64 0]) V8)))

theorem num_Adjoint_num_Num__v0 (p0 : Sl) (V : View) (R : Value → View → Prop) (I0 : C_num_Adjoint_num_Num__0 → L_num_Adjoint_num_Num__0 → View → Prop) (J0 : C_num_Adjoint_num_Num__0 → L_num_Adjoint_num_Num__0 → View → Nat) (I1 : C_num_Adjoint_num_Num__1 → L_num_Adjoint_num_Num__1 → View → Prop) (J1 : C_num_Adjoint_num_Num__1 → L_num_Adjoint_num_Num__1 → View → Nat) {X : Prop} (e : num_Adjoint_num_Num__sk p0 V R I0 I1 I0 (fun c w V x U => I0 c w V ∧ J0 c w V < J0 c x U) I1 (fun c w V x U => I1 c w V ∧ J1 c w V < J1 c x U) = X) (h : X) :
 CallV Tryz.prog 282 #[p0.v] V R :=
 calls_of_vc (Shp := Shp) hmixed Tryz.func282 (c := Tryz.f282.body.getD .skip) (args := [p0.v]) (by kernel_rfl)
 (.newR 0 0 (.seq (.reg [A 2 2, A 3 2]) (.seq (.reg [A 10 2, A 11 10, A 9 2, A 12 0, A 13 0, A 4 2, A 5 2]) (.seq (.seq (.reg [A 14 2, A 15 20]) (.cond (.seq (.reg [A 2 2, A 3 2]) (.pubR 0 .leaf)) .leaf)) (.seq (.reg [A 16 2, A 17 3, A 6 2]) (.seq (.seq (.reg [A 18 2, A 19 7, A 20 2]) (.block (.loop C_num_Adjoint_num_Num__0 L_num_Adjoint_num_Num__0 (fun σ => C_num_Adjoint_num_Num__0.mk (gLen (gTm σ 6)) (gCap (gTm σ 6)) (gInt (gTm σ 19))) (fun c x => { tm := spT 49 0 [(0, .val (p0.v)), (6, .osl 17 0 c.t6l c.t6c), (19, .val (.int .i64 c.t19)), (20, .val (.int .i64 x.t20))], own := spO 49 0 [(0, ⟨0, .reg x.o0⟩), (17, ⟨45, .dyn x.o17⟩)] }) I0 J0 (.seq (.reg [A 21 0]) (.seq (.cond .leaf .leaf) (.seq (.block (.seq (.reg [A 22 2, A 7 2]) (.seq (.reg [A 23 2, A 24 0, A 25 2]) (.block (.loop C_num_Adjoint_num_Num__1 L_num_Adjoint_num_Num__1 (fun σ => C_num_Adjoint_num_Num__1.mk (gLen (gTm σ 6)) (gCap (gTm σ 6)) (gInt (gTm σ 7)) (gInt (gTm σ 19)) (gInt (gTm σ 20))) (fun c x => { tm := spT 49 0 [(0, .val (p0.v)), (6, .osl 17 0 c.t6l c.t6c), (7, .val (.int .i64 c.t7)), (19, .val (.int .i64 c.t19)), (20, .val (.int .i64 c.t20)), (24, .val (.int .i64 (p0.len : Int))), (25, .val (.int .i64 x.t25))], own := spO 49 0 [(0, ⟨0, .reg x.o0⟩), (17, ⟨45, .dyn x.o17⟩)] }) I1 J1 (.seq (.reg [A 26 0]) (.seq (.cond .leaf .leaf) (.seq (.block (.seq (.reg [A 27 2, A 8 2]) (.draw [(0, A 28 2), (1, A 29 2), (2, A 30 2), (3, A 31 2), (4, A 32 7), (5, A 17 4), (6, A 34 2), (7, A 35 2), (8, A 36 7), (9, A 0 22), (10, A 38 2), (11, A 39 7), (12, A 0 22), (13, A 41 0), (14, A 42 10), (15, A 43 11), (16, A 0 25), (17, A 45 7), (18, A 17 6)] [0, 0, 0, 0, 12, 28, 0, 0, 192, 448, 0, 1984, 4032, 8128, 16320, 32704, 65532, 131071, 262143]))) (.reg [A 46 0, A 25 2]))))))))) (.reg [A 47 0, A 20 2]))))))) (.seq (.reg [A 48 2, A 2 2, A 3 2]) (.pubR 0 (.pub 17 .leaf)))))))))
 (Eq.mpr (by kernel_rfl) (show num_Adjoint_num_Num__sk p0 V R I0 I1 (fun c w V => ∃ x, num_Adjoint_num_Num__f0 p0 c w x ∧ I0 c x V) (fun c w V y U => ∃ x, num_Adjoint_num_Num__f0 p0 c w x ∧ I0 c x V ∧ J0 c x V < J0 c y U) (fun c w V => ∃ x, num_Adjoint_num_Num__f1 p0 c w x ∧ I1 c x V) (fun c w V y U => ∃ x, num_Adjoint_num_Num__f1 p0 c w x ∧ I1 c x V ∧ J1 c x V < J1 c y U) from by
 have h := Eq.mpr e h; unfold num_Adjoint_num_Num__sk at h ⊢; have Ee0 := fun c w V (h : I0 c w V) => (⟨w, ⟨⟨rfl, rfl, rfl, rfl, trivial⟩, ⟨rfl, rfl, trivial⟩⟩, h⟩ : ∃ x, num_Adjoint_num_Num__f0 p0 c w x ∧ I0 c x V); have Bb0 := fun c w V y U (h : I0 c w V ∧ J0 c w V < J0 c y U) => (⟨w, ⟨⟨rfl, rfl, rfl, rfl, trivial⟩, ⟨rfl, rfl, trivial⟩⟩, h⟩ : ∃ x, num_Adjoint_num_Num__f0 p0 c w x ∧ I0 c x V ∧ J0 c x V < J0 c y U); have Ee1 := fun c w V (h : I1 c w V) => (⟨w, ⟨⟨rfl, rfl, rfl, rfl, rfl, rfl, rfl, trivial⟩, ⟨rfl, rfl, trivial⟩⟩, h⟩ : ∃ x, num_Adjoint_num_Num__f1 p0 c w x ∧ I1 c x V); have Bb1 := fun c w V y U (h : I1 c w V ∧ J1 c w V < J1 c y U) => (⟨w, ⟨⟨rfl, rfl, rfl, rfl, rfl, rfl, rfl, trivial⟩, ⟨rfl, rfl, trivial⟩⟩, h⟩ : ∃ x, num_Adjoint_num_Num__f1 p0 c w x ∧ I1 c x V ∧ J1 c x V < J1 c y U); exact (CallV.mono h (fun _ _ _ ⟨r1, r2, h38, h37⟩ => ⟨r1, r2, h38, ⟨fun h36 => ⟨(h37.1 h36).1, (fun V2 h1 h2 => ((h37.1 h36).2 V2 h1 h2))⟩, fun h36 => ⟨(h37.2 h36).1, ⟨(Ee0 _ _ _ (h37.2 h36).2.1), fun x2 V3 h34 h35 => ⟨fun h33 => ⟨(Ee1 _ _ _ (((h37.2 h36).2.2 x2 V3 h34 h35).1 h33).1), fun x4 V4 h27 h28 => ⟨fun h26 => ⟨(((((h37.2 h36).2.2 x2 V3 h34 h35).1 h33).2 x4 V4 h27 h28).1 h26).1, (match (((((h37.2 h36).2.2 x2 V3 h34 h35).1 h33).2 x4 V4 h27 h28).1 h26).2 with | ⟨x5, h25, h24⟩ => ⟨x5, h25, ⟨h24.1, (match h24.2 with | ⟨x6, h23, h22⟩ => ⟨x6, h23, ⟨h22.1, (match h22.2 with | ⟨x7, h20, h21, h19⟩ => ⟨x7, h20, h21, (CallV.mono h19 (fun _ _ _ ⟨r3, h18, h17⟩ => ⟨r3, h18, (fun b2 V6 h14 h15 h16 => (match (h17 b2 V6 h14 h15 h16) with | ⟨l2, l3, h5, h6, h7, h8, h9, h10, h11, h12, h13, h4⟩ => ⟨l2, l3, h5, h6, h7, h8, h9, h10, h11, h12, h13, (fun a1 c1 m1 h3 => ⟨(h4 a1 c1 m1 h3).1, ⟨(h4 a1 c1 m1 h3).2.1, (Bb1 _ _ _ _ _ (h4 a1 c1 m1 h3).2.2)⟩⟩)⟩))⟩))⟩)⟩⟩)⟩⟩)⟩, fun h26 => (Bb0 _ _ _ _ _ (((((h37.2 h36).2.2 x2 V3 h34 h35).1 h33).2 x4 V4 h27 h28).2 h26))⟩⟩, fun h33 => ⟨(((h37.2 h36).2.2 x2 V3 h34 h35).2 h33).1, (fun V7 h31 h32 => (fun b5 V8 h29 h30 => (((((h37.2 h36).2.2 x2 V3 h34 h35).2 h33).2 V7 h31 h32) b5 V8 h29 h30)))⟩⟩⟩⟩⟩⟩))))

theorem num_Adjoint_num_Num__vc : type_of% (fun p0 V R I0 J0 I1 J1 => num_Adjoint_num_Num__v0 p0 V R I0 J0 I1 J1 (num_Adjoint_num_Num__sk.eq_1 ..)) := fun p0 V R I0 J0 I1 J1 => num_Adjoint_num_Num__v0 p0 V R I0 J0 I1 J1 (num_Adjoint_num_Num__sk.eq_1 ..)

structure L_num_Least_0 where
 u : Unit
structure C_num_Least_0 where
 t6 : Sl
structure L_num_Least_1 where
 t38 : Int
 o0 : View
 o32 : List Value
 o35 : List Value
structure C_num_Least_1 where
 t6 : Sl
 t8l : Nat
 t8c : Nat
 t9l : Nat
 t9c : Nat
 t36 : Sl
 t37 : Int
structure L_num_Least_2 where
 t45 : Int
 o0 : View
 o32 : List Value
 o35 : List Value
structure C_num_Least_2 where
 t6 : Sl
 t8l : Nat
 t8c : Nat
 t9l : Nat
 t9c : Nat
 t10 : Int
 t11 : Sl
 t36 : Sl
 t37 : Int
 t38 : Int
 t44 : Int
structure L_num_Least_3 where
 t50 : Int
 o0 : View
 o13 : NumV
 o32 : List Value
structure C_num_Least_3 where
 t6 : Sl
 t8l : Nat
 t8c : Nat
 t9l : Nat
 t9c : Nat
 t10 : Int
 t11 : Sl
 t12 : Int
 t36 : Sl
 t37 : Int
 t38 : Int
 t44 : Int
 t45 : Int
 o35 : List Value
structure L_num_Least_4 where
 t81 : Int
 o35 : List Value
structure C_num_Least_4 where
 t6 : Sl
 t8l : Nat
 t8c : Nat
 t9l : Nat
 t9c : Nat
 t10 : Int
 t11 : Sl
 t36 : Sl
 t37 : Int
 t38 : Int
 o0 : View
 o32 : List Value
def num_Least_f0 (p0 : Sl) (p1 : Sl) (c : C_num_Least_0) (_w _x : L_num_Least_0) : Prop := (Q1 (.val (p0.v)) ∧ Q1 (.val (p1.v)) ∧ Q1 (.val (c.t6.v)) ∧ True) ∧ (O2 ⟨0, .reg (fun _ => none : View)⟩ ⟨0, .reg (fun _ => none : View)⟩ ∧ True)
def num_Least_f1 (p0 : Sl) (p1 : Sl) (c : C_num_Least_1) (w x : L_num_Least_1) : Prop := (Q1 (.val (p0.v)) ∧ Q1 (.val (p1.v)) ∧ Q1 (.val (c.t6.v)) ∧ Q1 (.osl 32 0 c.t8l c.t8c) ∧ Q1 (.osl 35 0 c.t9l c.t9c) ∧ Q1 (.val (c.t36.v)) ∧ Q1 (.val (.int .i64 c.t37)) ∧ E2 (.val (.int .i64 w.t38)) (.val (.int .i64 x.t38)) ∧ True) ∧ (O2 ⟨0, .reg w.o0⟩ ⟨0, .reg x.o0⟩ ∧ O2 ⟨45, .dyn w.o32⟩ ⟨45, .dyn x.o32⟩ ∧ O2 ⟨31, .dyn w.o35⟩ ⟨31, .dyn x.o35⟩ ∧ True)
def num_Least_f2 (p0 : Sl) (p1 : Sl) (c : C_num_Least_2) (w x : L_num_Least_2) : Prop := (Q1 (.val (p0.v)) ∧ Q1 (.val (p1.v)) ∧ Q1 (.val (c.t6.v)) ∧ Q1 (.osl 32 0 c.t8l c.t8c) ∧ Q1 (.osl 35 0 c.t9l c.t9c) ∧ Q1 (.val (.int .i64 c.t10)) ∧ Q1 (.val (c.t11.v)) ∧ Q1 (.val (c.t36.v)) ∧ Q1 (.val (.int .i64 c.t37)) ∧ Q1 (.val (.int .i64 c.t38)) ∧ Q1 (.val (.int .i64 c.t44)) ∧ E2 (.val (.int .i64 w.t45)) (.val (.int .i64 x.t45)) ∧ True) ∧ (O2 ⟨0, .reg w.o0⟩ ⟨0, .reg x.o0⟩ ∧ O2 ⟨45, .dyn w.o32⟩ ⟨45, .dyn x.o32⟩ ∧ O2 ⟨31, .dyn w.o35⟩ ⟨31, .dyn x.o35⟩ ∧ True)
def num_Least_f3 (p0 : Sl) (p1 : Sl) (c : C_num_Least_3) (w x : L_num_Least_3) : Prop := (Q1 (.val (p0.v)) ∧ Q1 (.val (p1.v)) ∧ Q1 (.val (c.t6.v)) ∧ Q1 (.osl 32 0 c.t8l c.t8c) ∧ Q1 (.osl 35 0 c.t9l c.t9c) ∧ Q1 (.val (.int .i64 c.t10)) ∧ Q1 (.val (c.t11.v)) ∧ Q1 (.val (.int .i64 c.t12)) ∧ Q1 (.own 13 0) ∧ Q1 (.val (c.t36.v)) ∧ Q1 (.val (.int .i64 c.t37)) ∧ Q1 (.val (.int .i64 c.t38)) ∧ Q1 (.val (.int .i64 c.t44)) ∧ Q1 (.val (.int .i64 c.t45)) ∧ Q1 (.val (.int .i64 (p0.len : Int))) ∧ E2 (.val (.int .i64 w.t50)) (.val (.int .i64 x.t50)) ∧ True) ∧ (O2 ⟨0, .reg w.o0⟩ ⟨0, .reg x.o0⟩ ∧ O2 ⟨31, .fixed [.val (.bool w.o13.re.neg), .val (w.o13.re.mag.v), .val (.bool w.o13.im.neg), .val (w.o13.im.mag.v), .val (w.o13.under.v)]⟩ ⟨31, .fixed [.val (.bool x.o13.re.neg), .val (x.o13.re.mag.v), .val (.bool x.o13.im.neg), .val (x.o13.im.mag.v), .val (x.o13.under.v)]⟩ ∧ O2 ⟨45, .dyn w.o32⟩ ⟨45, .dyn x.o32⟩ ∧ O2 ⟨31, .dyn c.o35⟩ ⟨31, .dyn c.o35⟩ ∧ True)
def num_Least_f4 (p0 : Sl) (p1 : Sl) (c : C_num_Least_4) (w x : L_num_Least_4) : Prop := (Q1 (.val (p0.v)) ∧ Q1 (.val (p1.v)) ∧ Q1 (.val (c.t6.v)) ∧ Q1 (.osl 32 0 c.t8l c.t8c) ∧ Q1 (.osl 35 0 c.t9l c.t9c) ∧ Q1 (.val (.int .i64 c.t10)) ∧ Q1 (.val (c.t11.v)) ∧ Q1 (.val (c.t36.v)) ∧ Q1 (.val (.int .i64 c.t37)) ∧ Q1 (.val (.int .i64 c.t38)) ∧ Q1 (.val (.int .i64 (p0.len : Int))) ∧ E2 (.val (.int .i64 w.t81)) (.val (.int .i64 x.t81)) ∧ True) ∧ (O2 ⟨0, .reg c.o0⟩ ⟨0, .reg c.o0⟩ ∧ O2 ⟨45, .dyn c.o32⟩ ⟨45, .dyn c.o32⟩ ∧ O2 ⟨31, .dyn w.o35⟩ ⟨31, .dyn x.o35⟩ ∧ True)
def num_Least_sk (p0 : Sl) (p1 : Sl) (V : View) (R : Value → View → Prop) (I0 : C_num_Least_0 → L_num_Least_0 → View → Prop) (I1 : C_num_Least_1 → L_num_Least_1 → View → Prop) (I2 : C_num_Least_2 → L_num_Least_2 → View → Prop) (I3 : C_num_Least_3 → L_num_Least_3 → View → Prop) (I4 : C_num_Least_4 → L_num_Least_4 → View → Prop) (E0 : C_num_Least_0 → L_num_Least_0 → View → Prop) (E1 : C_num_Least_1 → L_num_Least_1 → View → Prop) (B1 : C_num_Least_1 → L_num_Least_1 → View → L_num_Least_1 → View → Prop) (E2 : C_num_Least_2 → L_num_Least_2 → View → Prop) (B2 : C_num_Least_2 → L_num_Least_2 → View → L_num_Least_2 → View → Prop) (E3 : C_num_Least_3 → L_num_Least_3 → View → Prop) (B3 : C_num_Least_3 → L_num_Least_3 → View → L_num_Least_3 → View → Prop) (E4 : C_num_Least_4 → L_num_Least_4 → View → Prop) (B4 : C_num_Least_4 → L_num_Least_4 → View → L_num_Least_4 → View → Prop) : Prop :=
 CallV Tryz.prog 282 #[p0.v] V fun v V1 => ∃ (r1 : Sl) (r2 : Int), v = .tuple #[r1.v, .int .i64 r2] ∧
 ((((r2 : Int) != 0) = true →
 ((0 : Nat) ≠ 1) ∧
 ∀ (V3 : View), View.le V1 V3 → (∀ (b : Nat) (cs : Array Value), (fun _ => none : View) b = some cs → V3 b = some cs) →
 R (.tuple #[(Sl.mk none 0 0).v, .int .i64 4]) V3) ∧
 (((r2 : Int) != 0) = false →
 ((((p1.len : Int) : Int) != (p0.len : Int)) = true →
 ((0 : Nat) ≠ 1) ∧
 ∀ (V4 : View), View.le V1 V4 → (∀ (b : Nat) (cs : Array Value), (fun _ => none : View) b = some cs → V4 b = some cs) →
 R (.tuple #[(Sl.mk none 0 0).v, .int .i64 4]) V4) ∧
 ((((p1.len : Int) : Int) != (p0.len : Int)) = false →
 E0 (C_num_Least_0.mk r1) (L_num_Least_0.mk ()) V1))) ∧
 (∀ (x1 : L_num_Least_0) (V2 : View), View.le V1 V2 → I0 (C_num_Least_0.mk r1) x1 V2 →
 ((0 : Int) ≤ (r1.len : Int) ∧ ((r1.len : Int) : Int) ≤ (r1.len : Int) ∧ (24 : Int) * (r1.len : Int) ≤ 281474976710656 ∧ ((r1.len : Int) : Int) ≤ 9223372036854775807) ∧
 ((0 : Int) ≤ (r1.len : Int) ∧ ((r1.len : Int) : Int) ≤ (r1.len : Int) ∧ (88 : Int) * (r1.len : Int) ≤ 281474976710656 ∧ ((r1.len : Int) : Int) ≤ 9223372036854775807) ∧
 E1 (C_num_Least_1.mk r1 (Int.toNat (r1.len : Int)) (Int.toNat (r1.len : Int)) (Int.toNat (r1.len : Int)) (Int.toNat (r1.len : Int)) r1 (r1.len : Int)) (L_num_Least_1.mk 0 (fun _ => none : View) ((List.replicate (Int.toNat (r1.len : Int)) [Value.slice none 0 0]).flatten) ((List.replicate (Int.toNat (r1.len : Int)) [Value.bool false, Value.slice none 0 0, Value.bool false, Value.slice none 0 0, Value.slice none 0 0]).flatten)) V2 ∧
 (∀ (x4 : L_num_Least_1) (V5 : View), View.le V2 V5 → I1 (C_num_Least_1.mk r1 (Int.toNat (r1.len : Int)) (Int.toNat (r1.len : Int)) (Int.toNat (r1.len : Int)) (Int.toNat (r1.len : Int)) r1 (r1.len : Int)) x4 V5 →
 ((decide ((x4.t38 : Int) < (r1.len : Int))) = true →
 ((0 : Int) ≤ x4.t38 ∧ (x4.t38 : Int) < (r1.len : Nat) ∧ Option.isSome r1.a = true) ∧
 ∃ x5 : Sl, load2 x4.o0 V5 (Option.map (fun q => Addr.add q (Int.toNat x4.t38 * 1)) r1.a) (x5.v) ∧
 E2 (C_num_Least_2.mk r1 (Int.toNat (r1.len : Int)) (Int.toNat (r1.len : Int)) (Int.toNat (r1.len : Int)) (Int.toNat (r1.len : Int)) x4.t38 x5 r1 (r1.len : Int) x4.t38 (r1.len : Int)) (L_num_Least_2.mk 0 x4.o0 x4.o32 x4.o35) V5 ∧
 (∀ (x7 : L_num_Least_2) (V6 : View), View.le V5 V6 → I2 (C_num_Least_2.mk r1 (Int.toNat (r1.len : Int)) (Int.toNat (r1.len : Int)) (Int.toNat (r1.len : Int)) (Int.toNat (r1.len : Int)) x4.t38 x5 r1 (r1.len : Int) x4.t38 (r1.len : Int)) x7 V6 →
 ((decide ((x7.t45 : Int) < (r1.len : Int))) = true →
 E3 (C_num_Least_3.mk r1 (Int.toNat (r1.len : Int)) (Int.toNat (r1.len : Int)) (Int.toNat (r1.len : Int)) (Int.toNat (r1.len : Int)) x4.t38 x5 x7.t45 r1 (r1.len : Int) x4.t38 (r1.len : Int) x7.t45 x7.o35) (L_num_Least_3.mk 0 x7.o0 (NumV.mk (WhV.mk false (Sl.mk none 0 0)) (WhV.mk false (Sl.mk none 0 0)) (Sl.mk none 0 0)) x7.o32) V6 ∧
 (∀ (x9 : L_num_Least_3) (V7 : View), View.le V6 V7 → I3 (C_num_Least_3.mk r1 (Int.toNat (r1.len : Int)) (Int.toNat (r1.len : Int)) (Int.toNat (r1.len : Int)) (Int.toNat (r1.len : Int)) x4.t38 x5 x7.t45 r1 (r1.len : Int) x4.t38 (r1.len : Int) x7.t45 x7.o35) x9 V7 →
 ((decide ((x9.t50 : Int) < (p0.len : Int))) = true →
 ((0 : Int) ≤ x9.t50 ∧ (x9.t50 : Int) < (x5.len : Nat) ∧ Option.isSome x5.a = true) ∧
 ∃ x10 : NumV, has2 x9.o0 V7 (Option.map (fun q => Addr.add q (Int.toNat x9.t50 * 5)) x5.a) (x10.val).cells.toList ∧ Option.isSome (Option.map (fun q => Addr.add q (Int.toNat x9.t50 * 5)) x5.a) = true ∧
 ((0 : Int) ≤ x9.t50 ∧ (x9.t50 : Int) < (p0.len : Nat) ∧ Option.isSome p0.a = true) ∧
 ∃ x11 : Sl, load2 x9.o0 V7 (Option.map (fun q => Addr.add q (Int.toNat x9.t50 * 1)) p0.a) (x11.v) ∧
 ((0 : Int) ≤ x7.t45 ∧ (x7.t45 : Int) < (x11.len : Nat) ∧ Option.isSome x11.a = true) ∧
 ∃ x12 : NumV, has2 x9.o0 V7 (Option.map (fun q => Addr.add q (Int.toNat x7.t45 * 5)) x11.a) (x12.val).cells.toList ∧ Option.isSome (Option.map (fun q => Addr.add q (Int.toNat x7.t45 * 5)) x11.a) = true ∧
 CallV Tryz.prog 209 #[x10.val, x12.val] V7 fun v V8 => ∃ r3 : NumV, v = r3.val ∧
 CallV Tryz.prog 19 #[x9.o13.val, r3.val] V8 fun v V9 => ∃ r4 : NumV, v = r4.val ∧
 B3 (C_num_Least_3.mk r1 (Int.toNat (r1.len : Int)) (Int.toNat (r1.len : Int)) (Int.toNat (r1.len : Int)) (Int.toNat (r1.len : Int)) x4.t38 x5 x7.t45 r1 (r1.len : Int) x4.t38 (r1.len : Int) x7.t45 x7.o35) (L_num_Least_3.mk (i64.wrap (x9.t50 + 1)) x9.o0 r4 x9.o32) V9 x9 V7) ∧
 ((decide ((x9.t50 : Int) < (p0.len : Int))) = false →
 ((0 : Int) ≤ x4.t38 ∧ (x4.t38 : Int) < (Int.toNat (r1.len : Int) : Nat)) ∧
 ∃ x14 : Sl, x9.o32[0 + Int.toNat x4.t38 * 1]? = some (x14.v) ∧
 ∀ (b3 : Nat) (V10 : View), View.le V7 V10 → View.Fin V10 → V10 b3 = some #[.bool x9.o13.re.neg, x9.o13.re.mag.v, .bool x9.o13.im.neg, x9.o13.im.mag.v, x9.o13.under.v] →
 ∃ (l3 : List Value) (l4 : List Value), ((x14.len : Nat) ≤ x14.cap ∧ (x14.a = none → (x14.cap : Nat) = 0)) ∧ has2 x9.o0 V10 x14.a l3 ∧ List.length l3 = x14.len * 5 ∧ has2 x9.o0 V10 (some (Addr.mk b3 0 none)) l4 ∧ List.length l4 = 1 * 5 ∧ (∀ v ∈ l4, Value.oneCell' v = true) ∧ x14.len + 1 ≤ maxLen ∧ (x14.len + 1) * 88 ≤ 140737488355328 ∧ ((1 : Nat) ≠ 0 → x14.len + 1 ≤ x14.cap → ∃ (b4 c2 : Nat) (l5 : List Value), x14.a = some (Addr.mk b4 c2 none) ∧ x9.o0 b4 = some (List.toArray l5) ∧ c2 + (x14.len + 1) * 5 ≤ List.length l5) ∧
 ∀ (a1 : Option Addr) (c1 : Nat) (m1 : View), AppR x9.o0 V10 x14.a x14.len x14.cap 1 5 l3 l4 a1 c1 m1 →
 ((0 : Int) ≤ x4.t38 ∧ (x4.t38 : Int) < (Int.toNat (r1.len : Int) : Nat)) ∧
 0 + Int.toNat x4.t38 * 1 + 1 ≤ List.length x9.o32 ∧
 B2 (C_num_Least_2.mk r1 (Int.toNat (r1.len : Int)) (Int.toNat (r1.len : Int)) (Int.toNat (r1.len : Int)) (Int.toNat (r1.len : Int)) x4.t38 x5 r1 (r1.len : Int) x4.t38 (r1.len : Int)) (L_num_Least_2.mk (i64.wrap (x7.t45 + 1)) m1 (List.set x9.o32 (0 + Int.toNat x4.t38 * 1) (.slice a1 (x14.len + 1) c1)) x7.o35) V10 x7 V6))) ∧
 ((decide ((x7.t45 : Int) < (r1.len : Int))) = false →
 E4 (C_num_Least_4.mk r1 (Int.toNat (r1.len : Int)) (Int.toNat (r1.len : Int)) (Int.toNat (r1.len : Int)) (Int.toNat (r1.len : Int)) x4.t38 x5 r1 (r1.len : Int) x4.t38 x7.o0 x7.o32) (L_num_Least_4.mk 0 x7.o35) V6 ∧
 (∀ (x17 : L_num_Least_4) (V11 : View), View.le V6 V11 → I4 (C_num_Least_4.mk r1 (Int.toNat (r1.len : Int)) (Int.toNat (r1.len : Int)) (Int.toNat (r1.len : Int)) (Int.toNat (r1.len : Int)) x4.t38 x5 r1 (r1.len : Int) x4.t38 x7.o0 x7.o32) x17 V11 →
 ((decide ((x17.t81 : Int) < (p0.len : Int))) = true →
 ((0 : Int) ≤ x4.t38 ∧ (x4.t38 : Int) < (Int.toNat (r1.len : Int) : Nat)) ∧
 ∃ x18 : NumV, List.take 5 (List.drop (0 + Int.toNat x4.t38 * 5) x17.o35) = (x18.val).cells.toList ∧
 ((0 : Int) ≤ x17.t81 ∧ (x17.t81 : Int) < (x5.len : Nat) ∧ Option.isSome x5.a = true) ∧
 ∃ x19 : NumV, has2 x7.o0 V11 (Option.map (fun q => Addr.add q (Int.toNat x17.t81 * 5)) x5.a) (x19.val).cells.toList ∧ Option.isSome (Option.map (fun q => Addr.add q (Int.toNat x17.t81 * 5)) x5.a) = true ∧
 ((0 : Int) ≤ x17.t81 ∧ (x17.t81 : Int) < (p1.len : Nat) ∧ Option.isSome p1.a = true) ∧
 ∃ x20 : NumV, has2 x7.o0 V11 (Option.map (fun q => Addr.add q (Int.toNat x17.t81 * 5)) p1.a) (x20.val).cells.toList ∧ Option.isSome (Option.map (fun q => Addr.add q (Int.toNat x17.t81 * 5)) p1.a) = true ∧
 CallV Tryz.prog 209 #[x19.val, x20.val] V11 fun v V12 => ∃ r5 : NumV, v = r5.val ∧
 CallV Tryz.prog 19 #[x18.val, r5.val] V12 fun v V13 => ∃ r6 : NumV, v = r6.val ∧
 ((0 : Int) ≤ x4.t38 ∧ (x4.t38 : Int) < (Int.toNat (r1.len : Int) : Nat)) ∧
 0 + Int.toNat x4.t38 * 5 + 5 ≤ List.length x17.o35 ∧
 B4 (C_num_Least_4.mk r1 (Int.toNat (r1.len : Int)) (Int.toNat (r1.len : Int)) (Int.toNat (r1.len : Int)) (Int.toNat (r1.len : Int)) x4.t38 x5 r1 (r1.len : Int) x4.t38 x7.o0 x7.o32) (L_num_Least_4.mk (i64.wrap (x17.t81 + 1)) (setL x17.o35 (0 + Int.toNat x4.t38 * 5) [.bool r6.re.neg, r6.re.mag.v, .bool r6.im.neg, r6.im.mag.v, r6.under.v])) V13 x17 V11) ∧
 ((decide ((x17.t81 : Int) < (p0.len : Int))) = false →
 B1 (C_num_Least_1.mk r1 (Int.toNat (r1.len : Int)) (Int.toNat (r1.len : Int)) (Int.toNat (r1.len : Int)) (Int.toNat (r1.len : Int)) r1 (r1.len : Int)) (L_num_Least_1.mk (i64.wrap (x4.t38 + 1)) x7.o0 x7.o32 x17.o35) V11 x4 V5))))) ∧
 ((decide ((x4.t38 : Int) < (r1.len : Int))) = false →
 ((0 : Nat) ≠ 1) ∧
 ∀ (V14 : View), View.le V5 V14 → (∀ (b : Nat) (cs : Array Value), x4.o0 b = some cs → V14 b = some cs) →
 ∀ (b6 : Nat) (V15 : View), View.le V14 V15 → V15 b6 = some (List.toArray x4.o32) →
 ∀ (b7 : Nat) (V16 : View), View.le V15 V16 → V16 b7 = some (List.toArray x4.o35) →
 CallV Tryz.prog 26 #[(Sl.mk (some (Addr.mk b6 0 none)) (Int.toNat (r1.len : Int)) (Int.toNat (r1.len : Int))).v, (Sl.mk (some (Addr.mk b7 0 none)) (Int.toNat (r1.len : Int)) (Int.toNat (r1.len : Int))).v] V16 fun v V17 => ∃ (r7 : Sl) (r8 : Int), v = .tuple #[r7.v, .int .i64 r8] ∧
 R (.tuple #[r7.v, .int .i64 r8]) V17)))

theorem num_Least_v0 (p0 : Sl) (p1 : Sl) (V : View) (R : Value → View → Prop) (I0 : C_num_Least_0 → L_num_Least_0 → View → Prop) (I1 : C_num_Least_1 → L_num_Least_1 → View → Prop) (J1 : C_num_Least_1 → L_num_Least_1 → View → Nat) (I2 : C_num_Least_2 → L_num_Least_2 → View → Prop) (J2 : C_num_Least_2 → L_num_Least_2 → View → Nat) (I3 : C_num_Least_3 → L_num_Least_3 → View → Prop) (J3 : C_num_Least_3 → L_num_Least_3 → View → Nat) (I4 : C_num_Least_4 → L_num_Least_4 → View → Prop) (J4 : C_num_Least_4 → L_num_Least_4 → View → Nat) {X : Prop} (e : num_Least_sk p0 p1 V R I0 I1 I2 I3 I4 I0 I1 (fun c w V x U => I1 c w V ∧ J1 c w V < J1 c x U) I2 (fun c w V x U => I2 c w V ∧ J2 c w V < J2 c x U) I3 (fun c w V x U => I3 c w V ∧ J3 c w V < J3 c x U) I4 (fun c w V x U => I4 c w V ∧ J4 c w V < J4 c x U) = X) (h : X) :
 CallV Tryz.prog 184 #[p0.v, p1.v] V R :=
 calls_of_vc (Shp := Shp) hmixed Tryz.func184 (c := Tryz.f184.body.getD .skip) (args := [p0.v, p1.v]) (by kernel_rfl)
 (.newR 0 0 (.seq (.reg [A 4 2, A 5 2]) (.seq (.reg [A 17 2, A 18 10, A 16 2, A 19 0, A 20 0, A 6 2, A 7 2]) (.cut C_num_Least_0 L_num_Least_0 (fun σ => C_num_Least_0.mk (Sl.mk (gSlA (gTm σ 6)) (gSlL (gTm σ 6)) (gSlC (gTm σ 6)))) (fun c x => { tm := spT 108 0 [(0, .val (p0.v)), (1, .val (p1.v)), (6, .val (c.t6.v))], own := spO 108 0 [(0, ⟨0, .reg (fun _ => none : View)⟩)] }) I0 (.seq (.reg [A 21 2, A 22 0, ⟨23, 2, true⟩, A 24 2, A 25 0, A 26 2, A 27 0, A 28 0, A 29 20]) (.cond (.seq (.reg [A 4 2, A 5 2]) (.pubR 0 .leaf)) .leaf)) (.seq (.reg [A 30 2, A 31 0, A 32 3, A 8 2]) (.seq (.reg [A 33 2, A 34 0, A 35 3, A 9 2]) (.seq (.seq (.reg [A 36 2, A 37 0, A 38 2]) (.block (.loop C_num_Least_1 L_num_Least_1 (fun σ => C_num_Least_1.mk (Sl.mk (gSlA (gTm σ 6)) (gSlL (gTm σ 6)) (gSlC (gTm σ 6))) (gLen (gTm σ 8)) (gCap (gTm σ 8)) (gLen (gTm σ 9)) (gCap (gTm σ 9)) (Sl.mk (gSlA (gTm σ 36)) (gSlL (gTm σ 36)) (gSlC (gTm σ 36))) (gInt (gTm σ 37))) (fun c x => { tm := spT 108 0 [(0, .val (p0.v)), (1, .val (p1.v)), (6, .val (c.t6.v)), (8, .osl 32 0 c.t8l c.t8c), (9, .osl 35 0 c.t9l c.t9c), (36, .val (c.t36.v)), (37, .val (.int .i64 c.t37)), (38, .val (.int .i64 x.t38))], own := spO 108 0 [(0, ⟨0, .reg x.o0⟩), (32, ⟨45, .dyn x.o32⟩), (35, ⟨31, .dyn x.o35⟩)] }) I1 J1 (.seq (.reg [A 39 0]) (.seq (.cond .leaf .leaf) (.seq (.block (.seq (.reg [A 40 2, A 41 7, A 0 22, A 10 2, A 11 2]) (.seq (.seq (.reg [A 43 2, A 44 0, A 45 2]) (.block (.loop C_num_Least_2 L_num_Least_2 (fun σ => C_num_Least_2.mk (Sl.mk (gSlA (gTm σ 6)) (gSlL (gTm σ 6)) (gSlC (gTm σ 6))) (gLen (gTm σ 8)) (gCap (gTm σ 8)) (gLen (gTm σ 9)) (gCap (gTm σ 9)) (gInt (gTm σ 10)) (Sl.mk (gSlA (gTm σ 11)) (gSlL (gTm σ 11)) (gSlC (gTm σ 11))) (Sl.mk (gSlA (gTm σ 36)) (gSlL (gTm σ 36)) (gSlC (gTm σ 36))) (gInt (gTm σ 37)) (gInt (gTm σ 38)) (gInt (gTm σ 44))) (fun c x => { tm := spT 108 0 [(0, .val (p0.v)), (1, .val (p1.v)), (6, .val (c.t6.v)), (8, .osl 32 0 c.t8l c.t8c), (9, .osl 35 0 c.t9l c.t9c), (10, .val (.int .i64 c.t10)), (11, .val (c.t11.v)), (36, .val (c.t36.v)), (37, .val (.int .i64 c.t37)), (38, .val (.int .i64 c.t38)), (44, .val (.int .i64 c.t44)), (45, .val (.int .i64 x.t45))], own := spO 108 0 [(0, ⟨0, .reg x.o0⟩), (32, ⟨45, .dyn x.o32⟩), (35, ⟨31, .dyn x.o35⟩)] }) I2 J2 (.seq (.reg [A 46 0]) (.seq (.cond .leaf .leaf) (.seq (.block (.seq (.reg [A 47 2, A 12 2]) (.seq (.reg [A 13 3]) (.seq (.seq (.reg [A 48 2, A 49 0, A 50 2]) (.block (.loop C_num_Least_3 L_num_Least_3 (fun σ => C_num_Least_3.mk (Sl.mk (gSlA (gTm σ 6)) (gSlL (gTm σ 6)) (gSlC (gTm σ 6))) (gLen (gTm σ 8)) (gCap (gTm σ 8)) (gLen (gTm σ 9)) (gCap (gTm σ 9)) (gInt (gTm σ 10)) (Sl.mk (gSlA (gTm σ 11)) (gSlL (gTm σ 11)) (gSlC (gTm σ 11))) (gInt (gTm σ 12)) (Sl.mk (gSlA (gTm σ 36)) (gSlL (gTm σ 36)) (gSlC (gTm σ 36))) (gInt (gTm σ 37)) (gInt (gTm σ 38)) (gInt (gTm σ 44)) (gInt (gTm σ 45)) (gDyn σ 35)) (fun c x => { tm := spT 108 0 [(0, .val (p0.v)), (1, .val (p1.v)), (6, .val (c.t6.v)), (8, .osl 32 0 c.t8l c.t8c), (9, .osl 35 0 c.t9l c.t9c), (10, .val (.int .i64 c.t10)), (11, .val (c.t11.v)), (12, .val (.int .i64 c.t12)), (13, .own 13 0), (36, .val (c.t36.v)), (37, .val (.int .i64 c.t37)), (38, .val (.int .i64 c.t38)), (44, .val (.int .i64 c.t44)), (45, .val (.int .i64 c.t45)), (49, .val (.int .i64 (p0.len : Int))), (50, .val (.int .i64 x.t50))], own := spO 108 0 [(0, ⟨0, .reg x.o0⟩), (13, ⟨31, .fixed [.val (.bool x.o13.re.neg), .val (x.o13.re.mag.v), .val (.bool x.o13.im.neg), .val (x.o13.im.mag.v), .val (x.o13.under.v)]⟩), (32, ⟨45, .dyn x.o32⟩), (35, ⟨31, .dyn c.o35⟩)] }) I3 J3 (.seq (.reg [A 51 0]) (.seq (.cond .leaf .leaf) (.seq (.block (.seq (.reg [A 52 2, A 14 2]) (.draw [(0, A 13 4), (1, A 54 2), (2, A 55 2), (3, A 56 7), (4, A 0 22), (5, A 58 2), (6, A 59 2), (7, A 60 7), (8, A 0 22), (9, A 62 2), (10, A 63 7), (11, A 0 22), (12, A 65 10), (13, A 66 10), (14, A 13 6)] [0, 0, 0, 6, 14, 0, 0, 96, 224, 0, 992, 2016, 4094, 8191, 16383]))) (.reg [A 67 0, A 50 2]))))))) (.draw [(0, A 68 2), (1, A 69 2), (2, A 70 2), (3, A 71 2), (4, A 72 7), (5, A 32 4), (6, A 13 4), (7, A 75 11), (8, A 0 25), (9, A 77 7), (10, A 32 6)] [0, 0, 0, 0, 12, 28, 0, 64, 252, 511, 1023]))))) (.reg [A 78 0, A 45 2]))))))) (.seq (.reg [A 79 2, A 80 0, A 81 2]) (.block (.loop C_num_Least_4 L_num_Least_4 (fun σ => C_num_Least_4.mk (Sl.mk (gSlA (gTm σ 6)) (gSlL (gTm σ 6)) (gSlC (gTm σ 6))) (gLen (gTm σ 8)) (gCap (gTm σ 8)) (gLen (gTm σ 9)) (gCap (gTm σ 9)) (gInt (gTm σ 10)) (Sl.mk (gSlA (gTm σ 11)) (gSlL (gTm σ 11)) (gSlC (gTm σ 11))) (Sl.mk (gSlA (gTm σ 36)) (gSlL (gTm σ 36)) (gSlC (gTm σ 36))) (gInt (gTm σ 37)) (gInt (gTm σ 38)) (gReg σ 0) (gDyn σ 32)) (fun c x => { tm := spT 108 0 [(0, .val (p0.v)), (1, .val (p1.v)), (6, .val (c.t6.v)), (8, .osl 32 0 c.t8l c.t8c), (9, .osl 35 0 c.t9l c.t9c), (10, .val (.int .i64 c.t10)), (11, .val (c.t11.v)), (36, .val (c.t36.v)), (37, .val (.int .i64 c.t37)), (38, .val (.int .i64 c.t38)), (80, .val (.int .i64 (p0.len : Int))), (81, .val (.int .i64 x.t81))], own := spO 108 0 [(0, ⟨0, .reg c.o0⟩), (32, ⟨45, .dyn c.o32⟩), (35, ⟨31, .dyn x.o35⟩)] }) I4 J4 (.seq (.reg [A 82 0]) (.seq (.cond .leaf .leaf) (.seq (.block (.seq (.reg [A 83 2, A 15 2]) (.draw [(0, A 84 2), (1, A 85 2), (2, A 86 2), (3, A 87 2), (4, A 88 7), (5, A 35 4), (6, A 90 2), (7, A 91 2), (8, A 92 7), (9, A 0 22), (10, A 94 2), (11, A 95 2), (12, A 96 7), (13, A 0 22), (14, A 98 10), (15, A 99 10), (16, A 100 7), (17, A 35 6)] [0, 0, 0, 0, 12, 28, 0, 0, 192, 448, 0, 0, 3072, 7168, 16320, 32764, 65535, 131071]))) (.reg [A 101 0, A 81 2])))))))))) (.reg [A 102 0, A 38 2]))))))) (.seq (.pubR 0 (.pub 32 (.pub 35 (.reg [A 103 2, A 104 2, A 105 10, A 106 0, A 107 0, A 4 2, A 5 2])))) .leaf))))))))
 (Eq.mpr (by kernel_rfl) (show num_Least_sk p0 p1 V R I0 I1 I2 I3 I4 (fun c w V => ∃ x, num_Least_f0 p0 p1 c w x ∧ I0 c x V) (fun c w V => ∃ x, num_Least_f1 p0 p1 c w x ∧ I1 c x V) (fun c w V y U => ∃ x, num_Least_f1 p0 p1 c w x ∧ I1 c x V ∧ J1 c x V < J1 c y U) (fun c w V => ∃ x, num_Least_f2 p0 p1 c w x ∧ I2 c x V) (fun c w V y U => ∃ x, num_Least_f2 p0 p1 c w x ∧ I2 c x V ∧ J2 c x V < J2 c y U) (fun c w V => ∃ x, num_Least_f3 p0 p1 c w x ∧ I3 c x V) (fun c w V y U => ∃ x, num_Least_f3 p0 p1 c w x ∧ I3 c x V ∧ J3 c x V < J3 c y U) (fun c w V => ∃ x, num_Least_f4 p0 p1 c w x ∧ I4 c x V) (fun c w V y U => ∃ x, num_Least_f4 p0 p1 c w x ∧ I4 c x V ∧ J4 c x V < J4 c y U) from by
 have h := Eq.mpr e h; unfold num_Least_sk at h ⊢; have Ee0 := fun c w V (h : I0 c w V) => (⟨w, ⟨⟨rfl, rfl, rfl, trivial⟩, ⟨rfl, trivial⟩⟩, h⟩ : ∃ x, num_Least_f0 p0 p1 c w x ∧ I0 c x V); have Ee1 := fun c w V (h : I1 c w V) => (⟨w, ⟨⟨rfl, rfl, rfl, rfl, rfl, rfl, rfl, rfl, trivial⟩, ⟨rfl, rfl, rfl, trivial⟩⟩, h⟩ : ∃ x, num_Least_f1 p0 p1 c w x ∧ I1 c x V); have Bb1 := fun c w V y U (h : I1 c w V ∧ J1 c w V < J1 c y U) => (⟨w, ⟨⟨rfl, rfl, rfl, rfl, rfl, rfl, rfl, rfl, trivial⟩, ⟨rfl, rfl, rfl, trivial⟩⟩, h⟩ : ∃ x, num_Least_f1 p0 p1 c w x ∧ I1 c x V ∧ J1 c x V < J1 c y U); have Ee2 := fun c w V (h : I2 c w V) => (⟨w, ⟨⟨rfl, rfl, rfl, rfl, rfl, rfl, rfl, rfl, rfl, rfl, rfl, rfl, trivial⟩, ⟨rfl, rfl, rfl, trivial⟩⟩, h⟩ : ∃ x, num_Least_f2 p0 p1 c w x ∧ I2 c x V); have Bb2 := fun c w V y U (h : I2 c w V ∧ J2 c w V < J2 c y U) => (⟨w, ⟨⟨rfl, rfl, rfl, rfl, rfl, rfl, rfl, rfl, rfl, rfl, rfl, rfl, trivial⟩, ⟨rfl, rfl, rfl, trivial⟩⟩, h⟩ : ∃ x, num_Least_f2 p0 p1 c w x ∧ I2 c x V ∧ J2 c x V < J2 c y U); have Ee3 := fun c w V (h : I3 c w V) => (⟨w, ⟨⟨rfl, rfl, rfl, rfl, rfl, rfl, rfl, rfl, rfl, rfl, rfl, rfl, rfl, rfl, rfl, rfl, trivial⟩, ⟨rfl, rfl, rfl, rfl, trivial⟩⟩, h⟩ : ∃ x, num_Least_f3 p0 p1 c w x ∧ I3 c x V); have Bb3 := fun c w V y U (h : I3 c w V ∧ J3 c w V < J3 c y U) => (⟨w, ⟨⟨rfl, rfl, rfl, rfl, rfl, rfl, rfl, rfl, rfl, rfl, rfl, rfl, rfl, rfl, rfl, rfl, trivial⟩, ⟨rfl, rfl, rfl, rfl, trivial⟩⟩, h⟩ : ∃ x, num_Least_f3 p0 p1 c w x ∧ I3 c x V ∧ J3 c x V < J3 c y U); have Ee4 := fun c w V (h : I4 c w V) => (⟨w, ⟨⟨rfl, rfl, rfl, rfl, rfl, rfl, rfl, rfl, rfl, rfl, rfl, rfl, trivial⟩, ⟨rfl, rfl, rfl, trivial⟩⟩, h⟩ : ∃ x, num_Least_f4 p0 p1 c w x ∧ I4 c x V); have Bb4 := fun c w V y U (h : I4 c w V ∧ J4 c w V < J4 c y U) => (⟨w, ⟨⟨rfl, rfl, rfl, rfl, rfl, rfl, rfl, rfl, rfl, rfl, rfl, rfl, trivial⟩, ⟨rfl, rfl, rfl, trivial⟩⟩, h⟩ : ∃ x, num_Least_f4 p0 p1 c w x ∧ I4 c x V ∧ J4 c x V < J4 c y U); exact (CallV.mono h (fun _ _ _ ⟨r1, r2, h72, h71⟩ => ⟨r1, r2, h72, ⟨⟨fun h6 => ⟨(h71.1.1 h6).1, (fun V3 h1 h2 => ((h71.1.1 h6).2 V3 h1 h2))⟩, fun h6 => ⟨fun h5 => ⟨((h71.1.2 h6).1 h5).1, (fun V4 h3 h4 => (((h71.1.2 h6).1 h5).2 V4 h3 h4))⟩, fun h5 => (Ee0 _ _ _ ((h71.1.2 h6).2 h5))⟩⟩, fun x1 V2 h69 h70 => ⟨(h71.2 x1 V2 h69 h70).1, ⟨(h71.2 x1 V2 h69 h70).2.1, ⟨(Ee1 _ _ _ (h71.2 x1 V2 h69 h70).2.2.1), fun x4 V5 h67 h68 => ⟨fun h66 => ⟨(((h71.2 x1 V2 h69 h70).2.2.2 x4 V5 h67 h68).1 h66).1, (match (((h71.2 x1 V2 h69 h70).2.2.2 x4 V5 h67 h68).1 h66).2 with | ⟨x5, h57, h56⟩ => ⟨x5, h57, ⟨(Ee2 _ _ _ h56.1), fun x7 V6 h54 h55 => ⟨fun h53 => ⟨(Ee3 _ _ _ ((h56.2 x7 V6 h54 h55).1 h53).1), fun x9 V7 h36 h37 => ⟨fun h35 => ⟨((((h56.2 x7 V6 h54 h55).1 h53).2 x9 V7 h36 h37).1 h35).1, (match ((((h56.2 x7 V6 h54 h55).1 h53).2 x9 V7 h36 h37).1 h35).2 with | ⟨x10, h17, h18, h16⟩ => ⟨x10, h17, h18, ⟨h16.1, (match h16.2 with | ⟨x11, h15, h14⟩ => ⟨x11, h15, ⟨h14.1, (match h14.2 with | ⟨x12, h12, h13, h11⟩ => ⟨x12, h12, h13, (CallV.mono h11 (fun _ _ _ ⟨r3, h10, h9⟩ => ⟨r3, h10, (CallV.mono h9 (fun _ _ _ ⟨r4, h8, h7⟩ => ⟨r4, h8, (Bb3 _ _ _ _ _ h7)⟩))⟩))⟩)⟩⟩)⟩⟩)⟩, fun h35 => ⟨((((h56.2 x7 V6 h54 h55).1 h53).2 x9 V7 h36 h37).2 h35).1, (match ((((h56.2 x7 V6 h54 h55).1 h53).2 x9 V7 h36 h37).2 h35).2 with | ⟨x14, h34, h33⟩ => ⟨x14, h34, (fun b3 V10 h30 h31 h32 => (match (h33 b3 V10 h30 h31 h32) with | ⟨l3, l4, h21, h22, h23, h24, h25, h26, h27, h28, h29, h20⟩ => ⟨l3, l4, h21, h22, h23, h24, h25, h26, h27, h28, h29, (fun a1 c1 m1 h19 => ⟨(h20 a1 c1 m1 h19).1, ⟨(h20 a1 c1 m1 h19).2.1, (Bb2 _ _ _ _ _ (h20 a1 c1 m1 h19).2.2)⟩⟩)⟩))⟩)⟩⟩⟩, fun h53 => ⟨(Ee4 _ _ _ ((h56.2 x7 V6 h54 h55).2 h53).1), fun x17 V11 h51 h52 => ⟨fun h50 => ⟨((((h56.2 x7 V6 h54 h55).2 h53).2 x17 V11 h51 h52).1 h50).1, (match ((((h56.2 x7 V6 h54 h55).2 h53).2 x17 V11 h51 h52).1 h50).2 with | ⟨x18, h49, h48⟩ => ⟨x18, h49, ⟨h48.1, (match h48.2 with | ⟨x19, h46, h47, h45⟩ => ⟨x19, h46, h47, ⟨h45.1, (match h45.2 with | ⟨x20, h43, h44, h42⟩ => ⟨x20, h43, h44, (CallV.mono h42 (fun _ _ _ ⟨r5, h41, h40⟩ => ⟨r5, h41, (CallV.mono h40 (fun _ _ _ ⟨r6, h39, h38⟩ => ⟨r6, h39, ⟨h38.1, ⟨h38.2.1, (Bb4 _ _ _ _ _ h38.2.2)⟩⟩⟩))⟩))⟩)⟩⟩)⟩⟩)⟩, fun h50 => (Bb1 _ _ _ _ _ ((((h56.2 x7 V6 h54 h55).2 h53).2 x17 V11 h51 h52).2 h50))⟩⟩⟩⟩⟩)⟩, fun h66 => ⟨(((h71.2 x1 V2 h69 h70).2.2.2 x4 V5 h67 h68).2 h66).1, (fun V14 h64 h65 => (fun b6 V15 h62 h63 => (fun b7 V16 h60 h61 => (CallV.mono ((((((h71.2 x1 V2 h69 h70).2.2.2 x4 V5 h67 h68).2 h66).2 V14 h64 h65) b6 V15 h62 h63) b7 V16 h60 h61) (fun _ _ _ ⟨r7, r8, h59, h58⟩ => ⟨r7, r8, h59, h58⟩)))))⟩⟩⟩⟩⟩⟩⟩))))

theorem num_Least_vc : type_of% (fun p0 p1 V R I0 I1 J1 I2 J2 I3 J3 I4 J4 => num_Least_v0 p0 p1 V R I0 I1 J1 I2 J2 I3 J3 I4 J4 (num_Least_sk.eq_1 ..)) := fun p0 p1 V R I0 I1 J1 I2 J2 I3 J3 I4 J4 => num_Least_v0 p0 p1 V R I0 I1 J1 I2 J2 I3 J3 I4 J4 (num_Least_sk.eq_1 ..)

end Go.Proofs.YtefkpimcffofaaaGreat
