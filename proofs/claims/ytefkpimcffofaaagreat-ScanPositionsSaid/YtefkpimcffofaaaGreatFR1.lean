/- Part of the proof; it has the parts FR1. -/
import Derived.Test.YtefkpimcffofaaaGreatFR2
set_option maxRecDepth 100000
set_option maxHeartbeats 4000000
namespace Go.Proofs.YtefkpimcffofaaaGreat
open Go Go.Vc Go.Proofs
open Go.IntKind (i8 i16 i32 i64 u8 u16 u32 u64)

structure L_ref1_trim_0 where
 t3 : Int
def ref1_trim_f0 (p0 : Sl) (_c : Unit) (w x : L_ref1_trim_0) : Prop := (Q1 (.val (p0.v)) ∧ E2 (.val (.int .i64 w.t3)) (.val (.int .i64 x.t3)) ∧ True) ∧ (True)
def ref1_trim_sk (p0 : Sl) (V : View) (R : Value → View → Prop) (I0 : Unit → L_ref1_trim_0 → View → Prop) (E0 : Unit → L_ref1_trim_0 → View → Prop) (B0 : Unit → L_ref1_trim_0 → View → L_ref1_trim_0 → View → Prop) : Prop :=
 E0 () (L_ref1_trim_0.mk (p0.len : Int)) V ∧
 (∀ (x2 : L_ref1_trim_0) (V1 : View), View.le V V1 → I0 () x2 V1 →
 ((decide ((x2.t3 : Int) > 0)) = true →
 ((0 : Int) ≤ (i64.wrap (x2.t3 - 1)) ∧ ((i64.wrap (x2.t3 - 1)) : Int) < (p0.len : Nat) ∧ Option.isSome p0.a = true) ∧
 ∃ x3 : Int, View.load V1 (Option.map (fun q => Addr.add q (Int.toNat (i64.wrap (x2.t3 - 1)) * 1)) p0.a) = some (.int .u32 x3) ∧
 (((x3 : Int) == 0) = true →
 B0 () (L_ref1_trim_0.mk (i64.wrap (x2.t3 - 1))) V1 x2 V1) ∧
 (((x3 : Int) == 0) = false →
 ((0 : Int) ≤ 0 ∧ (0 : Int) ≤ x2.t3 ∧ (x2.t3 : Int) ≤ (p0.cap : Nat)) ∧
 R ((Sl.mk (if p0.cap = Int.toNat 0 then p0.a else Option.map (fun q => Addr.add q (Int.toNat 0 * 1)) p0.a) (Int.toNat x2.t3 - Int.toNat 0) (p0.cap - Int.toNat 0)).v) V1)) ∧
 ((decide ((x2.t3 : Int) > 0)) = false →
 (false = true →
 B0 () (L_ref1_trim_0.mk (i64.wrap (x2.t3 - 1))) V1 x2 V1) ∧
 (false = false →
 ((0 : Int) ≤ 0 ∧ (0 : Int) ≤ x2.t3 ∧ (x2.t3 : Int) ≤ (p0.cap : Nat)) ∧
 R ((Sl.mk (if p0.cap = Int.toNat 0 then p0.a else Option.map (fun q => Addr.add q (Int.toNat 0 * 1)) p0.a) (Int.toNat x2.t3 - Int.toNat 0) (p0.cap - Int.toNat 0)).v) V1)))

theorem ref1_trim_v0 (p0 : Sl) (V : View) (R : Value → View → Prop) (I0 : Unit → L_ref1_trim_0 → View → Prop) (J0 : Unit → L_ref1_trim_0 → View → Nat) {X : Prop} (e : ref1_trim_sk p0 V R I0 I0 (fun c w V x U => I0 c w V ∧ J0 c w V < J0 c x U) = X) (h : X) :
 CallV Tryz.prog 342 #[p0.v] V R :=
 calls_of_vc (Shp := Shp) hmixed Tryz.func342 (c := Tryz.f342.body.getD .skip) (args := [p0.v]) (by kernel_rfl)
 (.seq (.reg [A 2 2]) (.seq (.reg [A 4 2, A 5 0, A 3 2]) (.seq (.block (.loop Unit L_ref1_trim_0 (fun _ => ()) (fun c x => { tm := spT 21 0 [(0, .val (p0.v)), (3, .val (.int .i64 x.t3))], own := spO 21 0 [] }) I0 J0 (.seq (.seq (.reg [A 6 2, A 7 0, ⟨8, 2, true⟩, A 9 2, A 10 2, A 11 0, A 12 7, A 13 5, A 14 0, A 15 2]) (.cond .leaf .leaf)) (.block (.reg [A 16 2, A 17 0, A 3 2]))))) (.seq (.reg [A 18 2, A 19 2, A 20 7, A 2 2]) .leaf))))
 (Eq.mpr (by kernel_rfl) (show ref1_trim_sk p0 V R I0 (fun c w V => ∃ x, ref1_trim_f0 p0 c w x ∧ I0 c x V) (fun c w V y U => ∃ x, ref1_trim_f0 p0 c w x ∧ I0 c x V ∧ J0 c x V < J0 c y U) from by
 have h := Eq.mpr e h; unfold ref1_trim_sk at h ⊢; have Ee0 := fun c w V (h : I0 c w V) => (⟨w, ⟨⟨rfl, rfl, trivial⟩, trivial⟩, h⟩ : ∃ x, ref1_trim_f0 p0 c w x ∧ I0 c x V); have Bb0 := fun c w V y U (h : I0 c w V ∧ J0 c w V < J0 c y U) => (⟨w, ⟨⟨rfl, rfl, trivial⟩, trivial⟩, h⟩ : ∃ x, ref1_trim_f0 p0 c w x ∧ I0 c x V ∧ J0 c x V < J0 c y U); exact ⟨(Ee0 _ _ _ h.1), fun x2 V1 h6 h7 => ⟨fun h5 => ⟨((h.2 x2 V1 h6 h7).1 h5).1, (match ((h.2 x2 V1 h6 h7).1 h5).2 with | ⟨x3, h3, h2⟩ => ⟨x3, h3, ⟨fun h1 => (Bb0 _ _ _ _ _ (h2.1 h1)), fun h1 => ⟨(h2.2 h1).1, (h2.2 h1).2⟩⟩⟩)⟩, fun h5 => ⟨fun h4 => (Bb0 _ _ _ _ _ (((h.2 x2 V1 h6 h7).2 h5).1 h4)), fun h4 => ⟨(((h.2 x2 V1 h6 h7).2 h5).2 h4).1, (((h.2 x2 V1 h6 h7).2 h5).2 h4).2⟩⟩⟩⟩))

theorem ref1_trim_vc : type_of% (fun p0 V R I0 J0 => ref1_trim_v0 p0 V R I0 J0 (ref1_trim_sk.eq_1 ..)) := fun p0 V R I0 J0 => ref1_trim_v0 p0 V R I0 J0 (ref1_trim_sk.eq_1 ..)

theorem ref1_NatOf_vc (p0 : Int) (V : View) (R : Value → View → Prop) 
 (h :
 ∀ (b1 : Nat) (V1 : View), View.le V V1 → View.Fin V1 → V1 b1 = some #[.int .u32 (u32.wrap p0), .int .u32 (u32.wrap (Int.fdiv p0 (2 ^ (min (Int.toNat 32) (u64.bits)))))] →
 CallV Tryz.prog 342 #[(Sl.mk (some (Addr.mk b1 0 none)) 2 2).v] V1 fun v V2 => ∃ r1 : Sl, v = r1.v ∧
 R (r1.v) V2) :
 CallV Tryz.prog 335 #[.int .u64 p0] V R :=
 calls_of_vc (Shp := Shp) hmixed Tryz.func335 (c := Tryz.f335.body.getD .skip) (args := [.int .u64 p0]) (by kernel_rfl)
 (.seq (.reg [A 2 2]) (.seq (.reg [A 3 2, A 4 0, A 5 2, A 6 0, A 7 0, A 8 11, A 9 10, A 2 2]) .leaf))
 (Eq.mpr (by kernel_rfl) h)

structure L_ref1_NatCmp_0 where
 t5 : Int
def ref1_NatCmp_f0 (p0 : Sl) (p1 : Sl) (_c : Unit) (w x : L_ref1_NatCmp_0) : Prop := (Q1 (.val (p0.v)) ∧ Q1 (.val (p1.v)) ∧ E2 (.val (.int .i64 w.t5)) (.val (.int .i64 x.t5)) ∧ True) ∧ (True)
def ref1_NatCmp_sk (p0 : Sl) (p1 : Sl) (V : View) (R : Value → View → Prop) (I0 : Unit → L_ref1_NatCmp_0 → View → Prop) (E0 : Unit → L_ref1_NatCmp_0 → View → Prop) (B0 : Unit → L_ref1_NatCmp_0 → View → L_ref1_NatCmp_0 → View → Prop) : Prop :=
 ((((p0.len : Int) : Int) != (p1.len : Int)) = true →
 ((decide (((p0.len : Int) : Int) < (p1.len : Int))) = true →
 R (.int .i64 (-1)) V) ∧
 ((decide (((p0.len : Int) : Int) < (p1.len : Int))) = false →
 R (.int .i64 1) V)) ∧
 ((((p0.len : Int) : Int) != (p1.len : Int)) = false →
 E0 () (L_ref1_NatCmp_0.mk (i64.wrap ((p0.len : Int) - 1))) V ∧
 (∀ (x2 : L_ref1_NatCmp_0) (V1 : View), View.le V V1 → I0 () x2 V1 →
 ((decide ((x2.t5 : Int) ≥ 0)) = true →
 ((0 : Int) ≤ x2.t5 ∧ (x2.t5 : Int) < (p0.len : Nat) ∧ Option.isSome p0.a = true) ∧
 ∃ x3 : Int, View.load V1 (Option.map (fun q => Addr.add q (Int.toNat x2.t5 * 1)) p0.a) = some (.int .u32 x3) ∧
 ((0 : Int) ≤ x2.t5 ∧ (x2.t5 : Int) < (p1.len : Nat) ∧ Option.isSome p1.a = true) ∧
 ∃ x4 : Int, View.load V1 (Option.map (fun q => Addr.add q (Int.toNat x2.t5 * 1)) p1.a) = some (.int .u32 x4) ∧
 (((x3 : Int) != x4) = true →
 ((0 : Int) ≤ x2.t5 ∧ (x2.t5 : Int) < (p0.len : Nat) ∧ Option.isSome p0.a = true) ∧
 ∃ x5 : Int, View.load V1 (Option.map (fun q => Addr.add q (Int.toNat x2.t5 * 1)) p0.a) = some (.int .u32 x5) ∧
 ((0 : Int) ≤ x2.t5 ∧ (x2.t5 : Int) < (p1.len : Nat) ∧ Option.isSome p1.a = true) ∧
 ∃ x6 : Int, View.load V1 (Option.map (fun q => Addr.add q (Int.toNat x2.t5 * 1)) p1.a) = some (.int .u32 x6) ∧
 ((decide ((x5 : Int) < x6)) = true →
 R (.int .i64 (-1)) V1) ∧
 ((decide ((x5 : Int) < x6)) = false →
 R (.int .i64 1) V1)) ∧
 (((x3 : Int) != x4) = false →
 B0 () (L_ref1_NatCmp_0.mk (i64.wrap (x2.t5 - 1))) V1 x2 V1)) ∧
 ((decide ((x2.t5 : Int) ≥ 0)) = false →
 R (.int .i64 0) V1)))

theorem ref1_NatCmp_v0 (p0 : Sl) (p1 : Sl) (V : View) (R : Value → View → Prop) (I0 : Unit → L_ref1_NatCmp_0 → View → Prop) (J0 : Unit → L_ref1_NatCmp_0 → View → Nat) {X : Prop} (e : ref1_NatCmp_sk p0 p1 V R I0 I0 (fun c w V x U => I0 c w V ∧ J0 c w V < J0 c x U) = X) (h : X) :
 CallV Tryz.prog 276 #[p0.v, p1.v] V R :=
 calls_of_vc (Shp := Shp) hmixed Tryz.func276 (c := Tryz.f276.body.getD .skip) (args := [p0.v, p1.v]) (by kernel_rfl)
 (.seq (.reg [A 4 2]) (.seq (.seq (.reg [A 6 2, A 7 0, A 8 2, A 9 0, A 10 0]) (.cond (.seq (.seq (.reg [A 11 2, A 12 0, A 13 2, A 14 0, A 15 0]) (.cond (.seq (.reg [A 4 2]) .leaf) .leaf)) (.seq (.reg [A 4 2]) .leaf)) .leaf)) (.seq (.seq (.reg [A 16 2, A 17 0, A 18 0, A 5 2]) (.block (.loop Unit L_ref1_NatCmp_0 (fun _ => ()) (fun c x => { tm := spT 41 0 [(0, .val (p0.v)), (1, .val (p1.v)), (5, .val (.int .i64 x.t5))], own := spO 41 0 [] }) I0 J0 (.seq (.seq (.reg [A 19 2, A 20 0]) (.cond .leaf .leaf)) (.seq (.block (.seq (.draw [(0, A 23 2), (1, A 24 2), (2, A 25 7), (3, A 26 5), (4, A 27 2), (5, A 28 2), (6, A 29 7), (7, A 30 5), (8, A 31 0)] [0, 0, 3, 7, 0, 0, 48, 112, 255]) (.cond (.seq (.seq (.draw [(0, A 32 2), (1, A 33 2), (2, A 34 7), (3, A 35 5), (4, A 36 2), (5, A 37 2), (6, A 38 7), (7, A 39 5), (8, A 40 0)] [0, 0, 3, 7, 0, 0, 48, 112, 255]) (.cond (.seq (.reg [A 4 2]) .leaf) .leaf)) (.seq (.reg [A 4 2]) .leaf)) .leaf))) (.reg [A 21 2, A 22 0, A 5 2])))))) (.seq (.reg [A 4 2]) .leaf))))
 (Eq.mpr (by kernel_rfl) (show ref1_NatCmp_sk p0 p1 V R I0 (fun c w V => ∃ x, ref1_NatCmp_f0 p0 p1 c w x ∧ I0 c x V) (fun c w V y U => ∃ x, ref1_NatCmp_f0 p0 p1 c w x ∧ I0 c x V ∧ J0 c x V < J0 c y U) from by
 have h := Eq.mpr e h; unfold ref1_NatCmp_sk at h ⊢; have Ee0 := fun c w V (h : I0 c w V) => (⟨w, ⟨⟨rfl, rfl, rfl, trivial⟩, trivial⟩, h⟩ : ∃ x, ref1_NatCmp_f0 p0 p1 c w x ∧ I0 c x V); have Bb0 := fun c w V y U (h : I0 c w V ∧ J0 c w V < J0 c y U) => (⟨w, ⟨⟨rfl, rfl, rfl, trivial⟩, trivial⟩, h⟩ : ∃ x, ref1_NatCmp_f0 p0 p1 c w x ∧ I0 c x V ∧ J0 c x V < J0 c y U); exact ⟨fun h15 => ⟨fun h1 => ((h.1 h15).1 h1), fun h1 => ((h.1 h15).2 h1)⟩, fun h15 => ⟨(Ee0 _ _ _ (h.2 h15).1), fun x2 V1 h13 h14 => ⟨fun h12 => ⟨(((h.2 h15).2 x2 V1 h13 h14).1 h12).1, (match (((h.2 h15).2 x2 V1 h13 h14).1 h12).2 with | ⟨x3, h11, h10⟩ => ⟨x3, h11, ⟨h10.1, (match h10.2 with | ⟨x4, h9, h8⟩ => ⟨x4, h9, ⟨fun h7 => ⟨(h8.1 h7).1, (match (h8.1 h7).2 with | ⟨x5, h6, h5⟩ => ⟨x5, h6, ⟨h5.1, (match h5.2 with | ⟨x6, h4, h3⟩ => ⟨x6, h4, ⟨fun h2 => (h3.1 h2), fun h2 => (h3.2 h2)⟩⟩)⟩⟩)⟩, fun h7 => (Bb0 _ _ _ _ _ (h8.2 h7))⟩⟩)⟩⟩)⟩, fun h12 => (((h.2 h15).2 x2 V1 h13 h14).2 h12)⟩⟩⟩))

theorem ref1_NatCmp_vc : type_of% (fun p0 p1 V R I0 J0 => ref1_NatCmp_v0 p0 p1 V R I0 J0 (ref1_NatCmp_sk.eq_1 ..)) := fun p0 p1 V R I0 J0 => ref1_NatCmp_v0 p0 p1 V R I0 J0 (ref1_NatCmp_sk.eq_1 ..)

end Go.Proofs.YtefkpimcffofaaaGreat
