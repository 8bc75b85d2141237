/- Part of the proof; it has the parts FR2. -/
import Derived.Test.YtcapadojlaojkaaGreatFR3
set_option maxRecDepth 100000
set_option maxHeartbeats 4000000
namespace Go.Proofs.YtcapadojlaojkaaGreat
open Go Go.Vc Go.Proofs

structure L_ref1_natDigit_0 where
  t7 : Int
  t8 : Int
  o12 : List Value
def ref1_natDigit_f0 (p0 : Sl) (p1 : Int) (_c : Unit) (w x : L_ref1_natDigit_0) : Prop := (Q1 (.val (p0.v)) ∧ Q1 (.val (.int .u32 p1)) ∧ Q1 (.osl 12 0 (Int.toNat (p0.len : Int)) (Int.toNat (p0.len : Int))) ∧ E2 (.val (.int .u64 w.t7)) (.val (.int .u64 x.t7)) ∧ E2 (.val (.int .i64 w.t8)) (.val (.int .i64 x.t8)) ∧ True) ∧ (O2 ⟨152, .dyn w.o12⟩ ⟨152, .dyn x.o12⟩ ∧ True)
def ref1_natDigit_sk (p0 : Sl) (p1 : Int) (V : View) (R : Value → View → Prop) (I0 : Unit → L_ref1_natDigit_0 → View → Prop) (E0 : Unit → L_ref1_natDigit_0 → View → Prop) (B0 : Unit → L_ref1_natDigit_0 → View → L_ref1_natDigit_0 → View → Prop) : Prop :=
    ((0 : Int) ≤ (p0.len : Int) ∧ ((p0.len : Int) : Int) ≤ (p0.len : Int) ∧ (4 : Int) * (p0.len : Int) ≤ 281474976710656 ∧ ((p0.len : Int) : Int) ≤ 9223372036854775807) ∧
    E0 () (L_ref1_natDigit_0.mk 0 (IntKind.i64.wrap ((p0.len : Int) - 1)) ((List.replicate (Int.toNat (p0.len : Int)) [Value.int .u32 0]).flatten)) V ∧
    (∀ (x2 : L_ref1_natDigit_0) (V1 : View), View.le V V1 → I0 () x2 V1 →
      ((decide ((x2.t8 : Int) ≥ 0)) = true →
        ((0 : Int) ≤ x2.t8 ∧ (x2.t8 : Int) < (p0.len : Nat) ∧ Option.isSome p0.a = true) ∧
      ∃ x3 : Int, View.load V1 (Option.map (fun q => Addr.add q (Int.toNat x2.t8 * 1)) p0.a) = some (.int .u32 x3) ∧
      ((IntKind.u64.wrap p1) : Int) ≠ 0 ∧
      ((0 : Int) ≤ x2.t8 ∧ (x2.t8 : Int) < (Int.toNat (p0.len : Int) : Nat)) ∧
      0 + Int.toNat x2.t8 * 1 + 1 ≤ List.length x2.o12 ∧
      ((IntKind.u64.wrap p1) : Int) ≠ 0 ∧
      B0 () (L_ref1_natDigit_0.mk (Int.tmod (IntKind.u64.wrap (BitVec.toNat ((BitVec.ofInt IntKind.u64.bits (IntKind.u64.wrap (x2.t7 * 2 ^ (min (Int.toNat 32) (IntKind.u64.bits))))) ||| (BitVec.ofInt IntKind.u64.bits (IntKind.u64.wrap x3))))) (IntKind.u64.wrap p1)) (IntKind.i64.wrap (x2.t8 - 1)) (List.set x2.o12 (0 + Int.toNat x2.t8 * 1) (.int .u32 (IntKind.u32.wrap (IntKind.u64.wrap (Int.tdiv (IntKind.u64.wrap (BitVec.toNat ((BitVec.ofInt IntKind.u64.bits (IntKind.u64.wrap (x2.t7 * 2 ^ (min (Int.toNat 32) (IntKind.u64.bits))))) ||| (BitVec.ofInt IntKind.u64.bits (IntKind.u64.wrap x3))))) (IntKind.u64.wrap p1))))))) V1 x2 V1) ∧
      ((decide ((x2.t8 : Int) ≥ 0)) = false →
        ∀ (b1 : Nat) (V2 : View), View.le V1 V2 → V2 b1 = some (List.toArray x2.o12) →
    CallV Tryz.prog 223 #[(Sl.mk (some (Addr.mk b1 0 none)) (Int.toNat (p0.len : Int)) (Int.toNat (p0.len : Int))).v] V2 fun v V3 => ∃ r1 : Sl, v = r1.v ∧ -- waveportref01.trim
    R (.tuple #[r1.v, .int .u32 (IntKind.u32.wrap x2.t7)]) V3))

theorem ref1_natDigit_v0 (p0 : Sl) (p1 : Int) (V : View) (R : Value → View → Prop) (I0 : Unit → L_ref1_natDigit_0 → View → Prop) (J0 : Unit → L_ref1_natDigit_0 → View → Nat) {X : Prop} (e : ref1_natDigit_sk p0 p1 V R I0 I0 (fun c w V x U => I0 c w V ∧ J0 c w V < J0 c x U) = X) (h : X) :
  CallV Tryz.prog 227 #[p0.v, .int .u32 p1] V R :=
  calls_of_vc (Shp := Shp) hmixed Tryz.func227 (c := Tryz.f227.body.getD .skip) (args := [p0.v, .int .u32 p1]) (by kernel_rfl)
    (.seq (.reg [⟨4, 2, false⟩, ⟨5, 2, false⟩]) (.seq (.reg [⟨10, 2, false⟩, ⟨11, 0, false⟩, ⟨12, 3, false⟩, ⟨6, 2, false⟩]) (.seq (.reg [⟨7, 2, false⟩]) (.seq (.seq (.reg [⟨13, 2, false⟩, ⟨14, 0, false⟩, ⟨15, 0, false⟩, ⟨8, 2, false⟩]) (.block (.loop Unit L_ref1_natDigit_0 (fun _ => ()) (fun c x => { tm := spT 44 0 [(0, .val (p0.v)), (1, .val (.int .u32 p1)), (6, .osl 12 0 (Int.toNat (p0.len : Int)) (Int.toNat (p0.len : Int))), (7, .val (.int .u64 x.t7)), (8, .val (.int .i64 x.t8))], own := spO 44 0 [(12, ⟨152, .dyn x.o12⟩)] }) I0 J0 (.seq (.seq (.reg [⟨16, 2, false⟩, ⟨17, 0, false⟩]) (.cond .leaf .leaf)) (.seq (.block (.seq (.reg [⟨20, 2, false⟩, ⟨21, 0, false⟩, ⟨22, 2, false⟩, ⟨23, 2, false⟩, ⟨24, 7, false⟩, ⟨25, 5, false⟩, ⟨26, 0, false⟩, ⟨27, 0, false⟩, ⟨9, 2, false⟩]) (.seq (.reg [⟨28, 2, false⟩, ⟨29, 2, false⟩, ⟨30, 2, false⟩, ⟨31, 2, false⟩, ⟨32, 0, false⟩, ⟨33, 12, false⟩, ⟨34, 0, false⟩, ⟨35, 7, false⟩, ⟨12, 6, false⟩]) (.reg [⟨36, 2, false⟩, ⟨37, 2, false⟩, ⟨38, 0, false⟩, ⟨39, 12, false⟩, ⟨7, 2, false⟩])))) (.reg [⟨18, 2, false⟩, ⟨19, 0, false⟩, ⟨8, 2, false⟩])))))) (.seq (.pub 12 (.reg [⟨40, 2, false⟩, ⟨41, 10, false⟩, ⟨42, 2, false⟩, ⟨43, 0, false⟩, ⟨4, 2, false⟩, ⟨5, 2, false⟩])) .leaf)))))
    (Eq.mpr (by kernel_rfl) (show ref1_natDigit_sk p0 p1 V R I0 (fun c w V => ∃ x, ref1_natDigit_f0 p0 p1 c w x ∧ I0 c x V) (fun c w V y U => ∃ x, ref1_natDigit_f0 p0 p1 c w x ∧ I0 c x V ∧ J0 c x V < J0 c y U) from by
    have h := Eq.mpr e h; unfold ref1_natDigit_sk at h ⊢; have Ee0 := fun c w V (h : I0 c w V) => (⟨w, ⟨⟨rfl, rfl, rfl, rfl, rfl, trivial⟩, ⟨rfl, trivial⟩⟩, h⟩ : ∃ x, ref1_natDigit_f0 p0 p1 c w x ∧ I0 c x V); have Bb0 := fun c w V y U (h : I0 c w V ∧ J0 c w V < J0 c y U) => (⟨w, ⟨⟨rfl, rfl, rfl, rfl, rfl, trivial⟩, ⟨rfl, trivial⟩⟩, h⟩ : ∃ x, ref1_natDigit_f0 p0 p1 c w x ∧ I0 c x V ∧ J0 c x V < J0 c y U); exact ⟨h.1, ⟨(Ee0 _ _ _ h.2.1), fun x2 V1 h8 h9 => ⟨fun h7 => ⟨((h.2.2 x2 V1 h8 h9).1 h7).1, (match ((h.2.2 x2 V1 h8 h9).1 h7).2 with | ⟨x3, h2, h1⟩ => ⟨x3, h2, ⟨h1.1, ⟨h1.2.1, ⟨h1.2.2.1, ⟨h1.2.2.2.1, (Bb0 _ _ _ _ _ h1.2.2.2.2)⟩⟩⟩⟩⟩)⟩, fun h7 => (fun b1 V2 h5 h6 => (CallV.mono (((h.2.2 x2 V1 h8 h9).2 h7) b1 V2 h5 h6) (fun _ _ _ ⟨r1, h4, h3⟩ => ⟨r1, h4, h3⟩)))⟩⟩⟩))

/-- waveport/waveportref01.natDigit -/
theorem ref1_natDigit_vc : type_of% (fun p0 p1 V R I0 J0 => ref1_natDigit_v0 p0 p1 V R I0 J0 (ref1_natDigit_sk.eq_1 ..)) := fun p0 p1 V R I0 J0 => ref1_natDigit_v0 p0 p1 V R I0 J0 (ref1_natDigit_sk.eq_1 ..)

structure L_ref1_NatBits_0 where
  t3 : Int
  t4 : Int
def ref1_NatBits_f0 (p0 : Sl) (_c : Unit) (w x : L_ref1_NatBits_0) : Prop := (Q1 (.val (p0.v)) ∧ E2 (.val (.int .i64 w.t3)) (.val (.int .i64 x.t3)) ∧ E2 (.val (.int .u32 w.t4)) (.val (.int .u32 x.t4)) ∧ True) ∧ (True)
def ref1_NatBits_sk (p0 : Sl) (V : View) (R : Value → View → Prop) (I0 : Unit → L_ref1_NatBits_0 → View → Prop) (E0 : Unit → L_ref1_NatBits_0 → View → Prop) (B0 : Unit → L_ref1_NatBits_0 → View → L_ref1_NatBits_0 → View → Prop) : Prop :=
    ((((p0.len : Int) : Int) == 0) = true →
      R (.int .i64 0) V) ∧
    ((((p0.len : Int) : Int) == 0) = false →
      ((0 : Int) ≤ (IntKind.i64.wrap ((p0.len : Int) - 1)) ∧ ((IntKind.i64.wrap ((p0.len : Int) - 1)) : Int) < (p0.len : Nat) ∧ Option.isSome p0.a = true) ∧
    ∃ x1 : Int, View.load V (Option.map (fun q => Addr.add q (Int.toNat (IntKind.i64.wrap ((p0.len : Int) - 1)) * 1)) p0.a) = some (.int .u32 x1) ∧
    E0 () (L_ref1_NatBits_0.mk 0 x1) V ∧
    (∀ (x3 : L_ref1_NatBits_0) (V1 : View), View.le V V1 → I0 () x3 V1 →
      ((decide ((x3.t4 : Int) > 0)) = true →
        B0 () (L_ref1_NatBits_0.mk (IntKind.i64.wrap (x3.t3 + 1)) (Int.fdiv x3.t4 (2 ^ (min (Int.toNat 1) (IntKind.u32.bits))))) V1 x3 V1) ∧
      ((decide ((x3.t4 : Int) > 0)) = false →
        R (.int .i64 (IntKind.i64.wrap ((IntKind.i64.wrap (32 * (IntKind.i64.wrap ((p0.len : Int) - 1)))) + x3.t3))) V1)))

theorem ref1_NatBits_v0 (p0 : Sl) (V : View) (R : Value → View → Prop) (I0 : Unit → L_ref1_NatBits_0 → View → Prop) (J0 : Unit → L_ref1_NatBits_0 → View → Nat) {X : Prop} (e : ref1_NatBits_sk p0 V R I0 I0 (fun c w V x U => I0 c w V ∧ J0 c w V < J0 c x U) = X) (h : X) :
  CallV Tryz.prog 228 #[p0.v] V R :=
  calls_of_vc (Shp := Shp) hmixed Tryz.func228 (c := Tryz.f228.body.getD .skip) (args := [p0.v]) (by kernel_rfl)
    (.seq (.reg [⟨2, 2, false⟩]) (.seq (.seq (.reg [⟨5, 2, false⟩, ⟨6, 0, false⟩, ⟨7, 0, false⟩]) (.cond (.seq (.reg [⟨2, 2, false⟩]) .leaf) .leaf)) (.seq (.reg [⟨3, 2, false⟩]) (.seq (.seq (.reg [⟨8, 2, false⟩, ⟨9, 2, false⟩, ⟨10, 0, false⟩, ⟨11, 0, false⟩, ⟨12, 7, false⟩, ⟨13, 5, false⟩, ⟨4, 2, false⟩]) (.block (.loop Unit L_ref1_NatBits_0 (fun _ => ()) (fun c x => { tm := spT 26 0 [(0, .val (p0.v)), (3, .val (.int .i64 x.t3)), (4, .val (.int .u32 x.t4))], own := spO 26 0 [] }) I0 J0 (.seq (.seq (.reg [⟨14, 2, false⟩, ⟨15, 0, false⟩]) (.cond .leaf .leaf)) (.seq (.block (.reg [⟨18, 2, false⟩, ⟨19, 0, false⟩, ⟨3, 2, false⟩])) (.reg [⟨16, 2, false⟩, ⟨17, 0, false⟩, ⟨4, 2, false⟩])))))) (.seq (.reg [⟨20, 2, false⟩, ⟨21, 0, false⟩, ⟨22, 0, false⟩, ⟨23, 0, false⟩, ⟨24, 2, false⟩, ⟨25, 0, false⟩, ⟨2, 2, false⟩]) .leaf)))))
    (Eq.mpr (by kernel_rfl) (show ref1_NatBits_sk p0 V R I0 (fun c w V => ∃ x, ref1_NatBits_f0 p0 c w x ∧ I0 c x V) (fun c w V y U => ∃ x, ref1_NatBits_f0 p0 c w x ∧ I0 c x V ∧ J0 c x V < J0 c y U) from by
    have h := Eq.mpr e h; unfold ref1_NatBits_sk at h ⊢; have Ee0 := fun c w V (h : I0 c w V) => (⟨w, ⟨⟨rfl, rfl, rfl, trivial⟩, trivial⟩, h⟩ : ∃ x, ref1_NatBits_f0 p0 c w x ∧ I0 c x V); have Bb0 := fun c w V y U (h : I0 c w V ∧ J0 c w V < J0 c y U) => (⟨w, ⟨⟨rfl, rfl, rfl, trivial⟩, trivial⟩, h⟩ : ∃ x, ref1_NatBits_f0 p0 c w x ∧ I0 c x V ∧ J0 c x V < J0 c y U); exact ⟨fun h6 => (h.1 h6), fun h6 => ⟨(h.2 h6).1, (match (h.2 h6).2 with | ⟨x1, h5, h4⟩ => ⟨x1, h5, ⟨(Ee0 _ _ _ h4.1), fun x3 V1 h2 h3 => ⟨fun h1 => (Bb0 _ _ _ _ _ ((h4.2 x3 V1 h2 h3).1 h1)), fun h1 => ((h4.2 x3 V1 h2 h3).2 h1)⟩⟩⟩)⟩⟩))

/-- waveport/waveportref01.NatBits -/
theorem ref1_NatBits_vc : type_of% (fun p0 V R I0 J0 => ref1_NatBits_v0 p0 V R I0 J0 (ref1_NatBits_sk.eq_1 ..)) := fun p0 V R I0 J0 => ref1_NatBits_v0 p0 V R I0 J0 (ref1_NatBits_sk.eq_1 ..)

structure L_ref1_NatShl_0 where
  t6 : Int
  o17 : List Value
def ref1_NatShl_f0 (p0 : Sl) (p1 : Int) (_c : Unit) (w x : L_ref1_NatShl_0) : Prop := (Q1 (.val (p0.v)) ∧ Q1 (.val (.int .i64 p1)) ∧ Q1 (.osl 17 0 (Int.toNat (IntKind.i64.wrap ((IntKind.i64.wrap ((p0.len : Int) + (IntKind.i64.wrap (Int.tdiv p1 32)))) + 1))) (Int.toNat (IntKind.i64.wrap ((IntKind.i64.wrap ((p0.len : Int) + (IntKind.i64.wrap (Int.tdiv p1 32)))) + 1)))) ∧ E2 (.val (.int .i64 w.t6)) (.val (.int .i64 x.t6)) ∧ True) ∧ (O2 ⟨152, .dyn w.o17⟩ ⟨152, .dyn x.o17⟩ ∧ True)
def ref1_NatShl_sk (p0 : Sl) (p1 : Int) (V : View) (R : Value → View → Prop) (I0 : Unit → L_ref1_NatShl_0 → View → Prop) (E0 : Unit → L_ref1_NatShl_0 → View → Prop) (B0 : Unit → L_ref1_NatShl_0 → View → L_ref1_NatShl_0 → View → Prop) : Prop :=
    ((((p0.len : Int) : Int) == 0) = true →
      R ((Sl.mk none 0 0).v) V) ∧
    ((((p0.len : Int) : Int) == 0) = false →
      ((0 : Int) ≤ (IntKind.i64.wrap ((IntKind.i64.wrap ((p0.len : Int) + (IntKind.i64.wrap (Int.tdiv p1 32)))) + 1)) ∧ ((IntKind.i64.wrap ((IntKind.i64.wrap ((p0.len : Int) + (IntKind.i64.wrap (Int.tdiv p1 32)))) + 1)) : Int) ≤ (IntKind.i64.wrap ((IntKind.i64.wrap ((p0.len : Int) + (IntKind.i64.wrap (Int.tdiv p1 32)))) + 1)) ∧ (4 : Int) * (IntKind.i64.wrap ((IntKind.i64.wrap ((p0.len : Int) + (IntKind.i64.wrap (Int.tdiv p1 32)))) + 1)) ≤ 281474976710656 ∧ ((IntKind.i64.wrap ((IntKind.i64.wrap ((p0.len : Int) + (IntKind.i64.wrap (Int.tdiv p1 32)))) + 1)) : Int) ≤ 9223372036854775807) ∧
    E0 () (L_ref1_NatShl_0.mk 0 ((List.replicate (Int.toNat (IntKind.i64.wrap ((IntKind.i64.wrap ((p0.len : Int) + (IntKind.i64.wrap (Int.tdiv p1 32)))) + 1))) [Value.int .u32 0]).flatten)) V ∧
    (∀ (x2 : L_ref1_NatShl_0) (V1 : View), View.le V V1 → I0 () x2 V1 →
      ((decide ((x2.t6 : Int) < (p0.len : Int))) = true →
        ((0 : Int) ≤ x2.t6 ∧ (x2.t6 : Int) < (p0.len : Nat) ∧ Option.isSome p0.a = true) ∧
      ∃ x3 : Int, View.load V1 (Option.map (fun q => Addr.add q (Int.toNat x2.t6 * 1)) p0.a) = some (.int .u32 x3) ∧
      (0 : Int) ≤ (IntKind.u64.wrap (Int.tmod p1 32)) ∧
      ((0 : Int) ≤ (IntKind.i64.wrap (x2.t6 + (IntKind.i64.wrap (Int.tdiv p1 32)))) ∧ ((IntKind.i64.wrap (x2.t6 + (IntKind.i64.wrap (Int.tdiv p1 32)))) : Int) < (Int.toNat (IntKind.i64.wrap ((IntKind.i64.wrap ((p0.len : Int) + (IntKind.i64.wrap (Int.tdiv p1 32)))) + 1)) : Nat)) ∧
      ∃ x4 : Int, x2.o17[0 + Int.toNat (IntKind.i64.wrap (x2.t6 + (IntKind.i64.wrap (Int.tdiv p1 32)))) * 1]? = some (.int .u32 x4) ∧
      ((0 : Int) ≤ (IntKind.i64.wrap (x2.t6 + (IntKind.i64.wrap (Int.tdiv p1 32)))) ∧ ((IntKind.i64.wrap (x2.t6 + (IntKind.i64.wrap (Int.tdiv p1 32)))) : Int) < (Int.toNat (IntKind.i64.wrap ((IntKind.i64.wrap ((p0.len : Int) + (IntKind.i64.wrap (Int.tdiv p1 32)))) + 1)) : Nat)) ∧
      0 + Int.toNat (IntKind.i64.wrap (x2.t6 + (IntKind.i64.wrap (Int.tdiv p1 32)))) * 1 + 1 ≤ List.length x2.o17 ∧
      ((0 : Int) ≤ (IntKind.i64.wrap ((IntKind.i64.wrap (x2.t6 + (IntKind.i64.wrap (Int.tdiv p1 32)))) + 1)) ∧ ((IntKind.i64.wrap ((IntKind.i64.wrap (x2.t6 + (IntKind.i64.wrap (Int.tdiv p1 32)))) + 1)) : Int) < (Int.toNat (IntKind.i64.wrap ((IntKind.i64.wrap ((p0.len : Int) + (IntKind.i64.wrap (Int.tdiv p1 32)))) + 1)) : Nat)) ∧
      0 + Int.toNat (IntKind.i64.wrap ((IntKind.i64.wrap (x2.t6 + (IntKind.i64.wrap (Int.tdiv p1 32)))) + 1)) * 1 + 1 ≤ List.length (List.set x2.o17 (0 + Int.toNat (IntKind.i64.wrap (x2.t6 + (IntKind.i64.wrap (Int.tdiv p1 32)))) * 1) (.int .u32 (IntKind.u32.wrap (BitVec.toNat ((BitVec.ofInt IntKind.u32.bits x4) ||| (BitVec.ofInt IntKind.u32.bits (IntKind.u32.wrap (IntKind.u64.wrap ((IntKind.u64.wrap x3) * 2 ^ (min (Int.toNat (IntKind.u64.wrap (Int.tmod p1 32))) (IntKind.bits .u64))))))))))) ∧
      B0 () (L_ref1_NatShl_0.mk (IntKind.i64.wrap (x2.t6 + 1)) (List.set (List.set x2.o17 (0 + Int.toNat (IntKind.i64.wrap (x2.t6 + (IntKind.i64.wrap (Int.tdiv p1 32)))) * 1) (.int .u32 (IntKind.u32.wrap (BitVec.toNat ((BitVec.ofInt IntKind.u32.bits x4) ||| (BitVec.ofInt IntKind.u32.bits (IntKind.u32.wrap (IntKind.u64.wrap ((IntKind.u64.wrap x3) * 2 ^ (min (Int.toNat (IntKind.u64.wrap (Int.tmod p1 32))) (IntKind.bits .u64))))))))))) (0 + Int.toNat (IntKind.i64.wrap ((IntKind.i64.wrap (x2.t6 + (IntKind.i64.wrap (Int.tdiv p1 32)))) + 1)) * 1) (.int .u32 (IntKind.u32.wrap (Int.fdiv (IntKind.u64.wrap ((IntKind.u64.wrap x3) * 2 ^ (min (Int.toNat (IntKind.u64.wrap (Int.tmod p1 32))) (IntKind.bits .u64)))) (2 ^ (min (Int.toNat 32) (IntKind.u64.bits)))))))) V1 x2 V1) ∧
      ((decide ((x2.t6 : Int) < (p0.len : Int))) = false →
        ∀ (b1 : Nat) (V2 : View), View.le V1 V2 → V2 b1 = some (List.toArray x2.o17) →
    CallV Tryz.prog 223 #[(Sl.mk (some (Addr.mk b1 0 none)) (Int.toNat (IntKind.i64.wrap ((IntKind.i64.wrap ((p0.len : Int) + (IntKind.i64.wrap (Int.tdiv p1 32)))) + 1))) (Int.toNat (IntKind.i64.wrap ((IntKind.i64.wrap ((p0.len : Int) + (IntKind.i64.wrap (Int.tdiv p1 32)))) + 1)))).v] V2 fun v V3 => ∃ r1 : Sl, v = r1.v ∧ -- waveportref01.trim
    R (r1.v) V3)))

theorem ref1_NatShl_v0 (p0 : Sl) (p1 : Int) (V : View) (R : Value → View → Prop) (I0 : Unit → L_ref1_NatShl_0 → View → Prop) (J0 : Unit → L_ref1_NatShl_0 → View → Nat) {X : Prop} (e : ref1_NatShl_sk p0 p1 V R I0 I0 (fun c w V x U => I0 c w V ∧ J0 c w V < J0 c x U) = X) (h : X) :
  CallV Tryz.prog 229 #[p0.v, .int .i64 p1] V R :=
  calls_of_vc (Shp := Shp) hmixed Tryz.func229 (c := Tryz.f229.body.getD .skip) (args := [p0.v, .int .i64 p1]) (by kernel_rfl)
    (.seq (.reg [⟨4, 2, false⟩]) (.seq (.seq (.reg [⟨8, 2, false⟩, ⟨9, 0, false⟩, ⟨10, 0, false⟩]) (.cond (.seq (.reg [⟨4, 2, false⟩]) .leaf) .leaf)) (.seq (.reg [⟨11, 2, false⟩, ⟨12, 0, false⟩, ⟨13, 2, false⟩, ⟨14, 0, false⟩, ⟨15, 0, false⟩, ⟨16, 0, false⟩, ⟨17, 3, false⟩, ⟨5, 2, false⟩]) (.seq (.seq (.reg [⟨6, 2, false⟩]) (.block (.loop Unit L_ref1_NatShl_0 (fun _ => ()) (fun c x => { tm := spT 61 0 [(0, .val (p0.v)), (1, .val (.int .i64 p1)), (5, .osl 17 0 (Int.toNat (IntKind.i64.wrap ((IntKind.i64.wrap ((p0.len : Int) + (IntKind.i64.wrap (Int.tdiv p1 32)))) + 1))) (Int.toNat (IntKind.i64.wrap ((IntKind.i64.wrap ((p0.len : Int) + (IntKind.i64.wrap (Int.tdiv p1 32)))) + 1)))), (6, .val (.int .i64 x.t6))], own := spO 61 0 [(17, ⟨152, .dyn x.o17⟩)] }) I0 J0 (.seq (.seq (.reg [⟨18, 2, false⟩, ⟨19, 2, false⟩, ⟨20, 0, false⟩, ⟨21, 0, false⟩]) (.cond .leaf .leaf)) (.seq (.block (.seq (.reg [⟨24, 2, false⟩, ⟨25, 2, false⟩, ⟨26, 7, false⟩, ⟨27, 5, false⟩, ⟨28, 0, false⟩, ⟨29, 2, false⟩, ⟨30, 0, false⟩, ⟨31, 0, false⟩, ⟨32, 12, false⟩, ⟨7, 2, false⟩]) (.seq (.reg [⟨33, 2, false⟩, ⟨34, 2, false⟩, ⟨35, 2, false⟩, ⟨36, 0, false⟩, ⟨37, 0, false⟩, ⟨38, 2, false⟩, ⟨39, 2, false⟩, ⟨40, 2, false⟩, ⟨41, 0, false⟩, ⟨42, 0, false⟩, ⟨43, 7, false⟩, ⟨17, 4, false⟩, ⟨45, 2, false⟩, ⟨46, 0, false⟩, ⟨47, 0, false⟩, ⟨48, 7, false⟩, ⟨17, 6, false⟩]) (.reg [⟨49, 2, false⟩, ⟨50, 2, false⟩, ⟨51, 2, false⟩, ⟨52, 0, false⟩, ⟨53, 0, false⟩, ⟨54, 0, false⟩, ⟨55, 2, false⟩, ⟨56, 0, false⟩, ⟨57, 0, false⟩, ⟨58, 7, false⟩, ⟨17, 6, false⟩])))) (.reg [⟨22, 2, false⟩, ⟨23, 0, false⟩, ⟨6, 2, false⟩])))))) (.seq (.pub 17 (.reg [⟨59, 2, false⟩, ⟨60, 10, false⟩, ⟨4, 2, false⟩])) .leaf)))))
    (Eq.mpr (by kernel_rfl) (show ref1_NatShl_sk p0 p1 V R I0 (fun c w V => ∃ x, ref1_NatShl_f0 p0 p1 c w x ∧ I0 c x V) (fun c w V y U => ∃ x, ref1_NatShl_f0 p0 p1 c w x ∧ I0 c x V ∧ J0 c x V < J0 c y U) from by
    have h := Eq.mpr e h; unfold ref1_NatShl_sk at h ⊢; have Ee0 := fun c w V (h : I0 c w V) => (⟨w, ⟨⟨rfl, rfl, rfl, rfl, trivial⟩, ⟨rfl, trivial⟩⟩, h⟩ : ∃ x, ref1_NatShl_f0 p0 p1 c w x ∧ I0 c x V); have Bb0 := fun c w V y U (h : I0 c w V ∧ J0 c w V < J0 c y U) => (⟨w, ⟨⟨rfl, rfl, rfl, rfl, trivial⟩, ⟨rfl, trivial⟩⟩, h⟩ : ∃ x, ref1_NatShl_f0 p0 p1 c w x ∧ I0 c x V ∧ J0 c x V < J0 c y U); exact ⟨fun h12 => (h.1 h12), fun h12 => ⟨(h.2 h12).1, ⟨(Ee0 _ _ _ (h.2 h12).2.1), fun x2 V1 h10 h11 => ⟨fun h9 => ⟨(((h.2 h12).2.2 x2 V1 h10 h11).1 h9).1, (match (((h.2 h12).2.2 x2 V1 h10 h11).1 h9).2 with | ⟨x3, h4, h3⟩ => ⟨x3, h4, ⟨h3.1, ⟨h3.2.1, (match h3.2.2 with | ⟨x4, h2, h1⟩ => ⟨x4, h2, ⟨h1.1, ⟨h1.2.1, ⟨h1.2.2.1, ⟨h1.2.2.2.1, (Bb0 _ _ _ _ _ h1.2.2.2.2)⟩⟩⟩⟩⟩)⟩⟩⟩)⟩, fun h9 => (fun b1 V2 h7 h8 => (CallV.mono ((((h.2 h12).2.2 x2 V1 h10 h11).2 h9) b1 V2 h7 h8) (fun _ _ _ ⟨r1, h6, h5⟩ => ⟨r1, h6, h5⟩)))⟩⟩⟩⟩))

/-- waveport/waveportref01.NatShl -/
theorem ref1_NatShl_vc : type_of% (fun p0 p1 V R I0 J0 => ref1_NatShl_v0 p0 p1 V R I0 J0 (ref1_NatShl_sk.eq_1 ..)) := fun p0 p1 V R I0 J0 => ref1_NatShl_v0 p0 p1 V R I0 J0 (ref1_NatShl_sk.eq_1 ..)

structure L_ref1_NatShr_0 where
  t6 : Int
  o18 : List Value
def ref1_NatShr_f0 (p0 : Sl) (p1 : Int) (_c : Unit) (w x : L_ref1_NatShr_0) : Prop := (Q1 (.val (p0.v)) ∧ Q1 (.val (.int .i64 p1)) ∧ Q1 (.osl 18 0 (Int.toNat (IntKind.i64.wrap ((p0.len : Int) - (IntKind.i64.wrap (Int.tdiv p1 32))))) (Int.toNat (IntKind.i64.wrap ((p0.len : Int) - (IntKind.i64.wrap (Int.tdiv p1 32)))))) ∧ E2 (.val (.int .i64 w.t6)) (.val (.int .i64 x.t6)) ∧ True) ∧ (O2 ⟨152, .dyn w.o18⟩ ⟨152, .dyn x.o18⟩ ∧ True)
def ref1_NatShr_sk (p0 : Sl) (p1 : Int) (V : View) (R : Value → View → Prop) (I0 : Unit → L_ref1_NatShr_0 → View → Prop) (E0 : Unit → L_ref1_NatShr_0 → View → Prop) (B0 : Unit → L_ref1_NatShr_0 → View → L_ref1_NatShr_0 → View → Prop) : Prop :=
    ((decide (((IntKind.i64.wrap (Int.tdiv p1 32)) : Int) ≥ (p0.len : Int))) = true →
      R ((Sl.mk none 0 0).v) V) ∧
    ((decide (((IntKind.i64.wrap (Int.tdiv p1 32)) : Int) ≥ (p0.len : Int))) = false →
      ((0 : Int) ≤ (IntKind.i64.wrap ((p0.len : Int) - (IntKind.i64.wrap (Int.tdiv p1 32)))) ∧ ((IntKind.i64.wrap ((p0.len : Int) - (IntKind.i64.wrap (Int.tdiv p1 32)))) : Int) ≤ (IntKind.i64.wrap ((p0.len : Int) - (IntKind.i64.wrap (Int.tdiv p1 32)))) ∧ (4 : Int) * (IntKind.i64.wrap ((p0.len : Int) - (IntKind.i64.wrap (Int.tdiv p1 32)))) ≤ 281474976710656 ∧ ((IntKind.i64.wrap ((p0.len : Int) - (IntKind.i64.wrap (Int.tdiv p1 32)))) : Int) ≤ 9223372036854775807) ∧
    E0 () (L_ref1_NatShr_0.mk 0 ((List.replicate (Int.toNat (IntKind.i64.wrap ((p0.len : Int) - (IntKind.i64.wrap (Int.tdiv p1 32))))) [Value.int .u32 0]).flatten)) V ∧
    (∀ (x2 : L_ref1_NatShr_0) (V1 : View), View.le V V1 → I0 () x2 V1 →
      ((decide ((x2.t6 : Int) < ((Int.toNat (IntKind.i64.wrap ((p0.len : Int) - (IntKind.i64.wrap (Int.tdiv p1 32)))) : Nat) : Int))) = true →
        ((0 : Int) ≤ (IntKind.i64.wrap (x2.t6 + (IntKind.i64.wrap (Int.tdiv p1 32)))) ∧ ((IntKind.i64.wrap (x2.t6 + (IntKind.i64.wrap (Int.tdiv p1 32)))) : Int) < (p0.len : Nat) ∧ Option.isSome p0.a = true) ∧
      ∃ x3 : Int, View.load V1 (Option.map (fun q => Addr.add q (Int.toNat (IntKind.i64.wrap (x2.t6 + (IntKind.i64.wrap (Int.tdiv p1 32)))) * 1)) p0.a) = some (.int .u32 x3) ∧
      ((decide (((IntKind.i64.wrap ((IntKind.i64.wrap (x2.t6 + (IntKind.i64.wrap (Int.tdiv p1 32)))) + 1)) : Int) < (p0.len : Int))) = true →
        ((0 : Int) ≤ (IntKind.i64.wrap ((IntKind.i64.wrap (x2.t6 + (IntKind.i64.wrap (Int.tdiv p1 32)))) + 1)) ∧ ((IntKind.i64.wrap ((IntKind.i64.wrap (x2.t6 + (IntKind.i64.wrap (Int.tdiv p1 32)))) + 1)) : Int) < (p0.len : Nat) ∧ Option.isSome p0.a = true) ∧
        ∃ x4 : Int, View.load V1 (Option.map (fun q => Addr.add q (Int.toNat (IntKind.i64.wrap ((IntKind.i64.wrap (x2.t6 + (IntKind.i64.wrap (Int.tdiv p1 32)))) + 1)) * 1)) p0.a) = some (.int .u32 x4) ∧
        (0 : Int) ≤ (IntKind.u64.wrap (Int.tmod p1 32)) ∧
      ((0 : Int) ≤ x2.t6 ∧ (x2.t6 : Int) < (Int.toNat (IntKind.i64.wrap ((p0.len : Int) - (IntKind.i64.wrap (Int.tdiv p1 32)))) : Nat)) ∧
      0 + Int.toNat x2.t6 * 1 + 1 ≤ List.length x2.o18 ∧
      B0 () (L_ref1_NatShr_0.mk (IntKind.i64.wrap (x2.t6 + 1)) (List.set x2.o18 (0 + Int.toNat x2.t6 * 1) (.int .u32 (IntKind.u32.wrap (Int.fdiv (IntKind.u64.wrap (BitVec.toNat ((BitVec.ofInt IntKind.u64.bits (IntKind.u64.wrap x3)) ||| (BitVec.ofInt IntKind.u64.bits (IntKind.u64.wrap ((IntKind.u64.wrap x4) * 2 ^ (min (Int.toNat 32) (IntKind.u64.bits)))))))) (2 ^ (min (Int.toNat (IntKind.u64.wrap (Int.tmod p1 32))) (IntKind.bits .u64)))))))) V1 x2 V1) ∧
      ((decide (((IntKind.i64.wrap ((IntKind.i64.wrap (x2.t6 + (IntKind.i64.wrap (Int.tdiv p1 32)))) + 1)) : Int) < (p0.len : Int))) = false →
        (0 : Int) ≤ (IntKind.u64.wrap (Int.tmod p1 32)) ∧
      ((0 : Int) ≤ x2.t6 ∧ (x2.t6 : Int) < (Int.toNat (IntKind.i64.wrap ((p0.len : Int) - (IntKind.i64.wrap (Int.tdiv p1 32)))) : Nat)) ∧
      0 + Int.toNat x2.t6 * 1 + 1 ≤ List.length x2.o18 ∧
      B0 () (L_ref1_NatShr_0.mk (IntKind.i64.wrap (x2.t6 + 1)) (List.set x2.o18 (0 + Int.toNat x2.t6 * 1) (.int .u32 (IntKind.u32.wrap (Int.fdiv (IntKind.u64.wrap x3) (2 ^ (min (Int.toNat (IntKind.u64.wrap (Int.tmod p1 32))) (IntKind.bits .u64)))))))) V1 x2 V1)) ∧
      ((decide ((x2.t6 : Int) < ((Int.toNat (IntKind.i64.wrap ((p0.len : Int) - (IntKind.i64.wrap (Int.tdiv p1 32)))) : Nat) : Int))) = false →
        ∀ (b1 : Nat) (V2 : View), View.le V1 V2 → V2 b1 = some (List.toArray x2.o18) →
    CallV Tryz.prog 223 #[(Sl.mk (some (Addr.mk b1 0 none)) (Int.toNat (IntKind.i64.wrap ((p0.len : Int) - (IntKind.i64.wrap (Int.tdiv p1 32))))) (Int.toNat (IntKind.i64.wrap ((p0.len : Int) - (IntKind.i64.wrap (Int.tdiv p1 32)))))).v] V2 fun v V3 => ∃ r1 : Sl, v = r1.v ∧ -- waveportref01.trim
    R (r1.v) V3)))

theorem ref1_NatShr_v0 (p0 : Sl) (p1 : Int) (V : View) (R : Value → View → Prop) (I0 : Unit → L_ref1_NatShr_0 → View → Prop) (J0 : Unit → L_ref1_NatShr_0 → View → Nat) {X : Prop} (e : ref1_NatShr_sk p0 p1 V R I0 I0 (fun c w V x U => I0 c w V ∧ J0 c w V < J0 c x U) = X) (h : X) :
  CallV Tryz.prog 230 #[p0.v, .int .i64 p1] V R :=
  calls_of_vc (Shp := Shp) hmixed Tryz.func230 (c := Tryz.f230.body.getD .skip) (args := [p0.v, .int .i64 p1]) (by kernel_rfl)
    (.seq (.reg [⟨4, 2, false⟩]) (.seq (.seq (.reg [⟨8, 2, false⟩, ⟨9, 0, false⟩, ⟨10, 2, false⟩, ⟨11, 0, false⟩, ⟨12, 0, false⟩]) (.cond (.seq (.reg [⟨4, 2, false⟩]) .leaf) .leaf)) (.seq (.reg [⟨13, 2, false⟩, ⟨14, 0, false⟩, ⟨15, 2, false⟩, ⟨16, 0, false⟩, ⟨17, 0, false⟩, ⟨18, 3, false⟩, ⟨5, 2, false⟩]) (.seq (.seq (.reg [⟨6, 2, false⟩]) (.block (.loop Unit L_ref1_NatShr_0 (fun _ => ()) (fun c x => { tm := spT 64 0 [(0, .val (p0.v)), (1, .val (.int .i64 p1)), (5, .osl 18 0 (Int.toNat (IntKind.i64.wrap ((p0.len : Int) - (IntKind.i64.wrap (Int.tdiv p1 32))))) (Int.toNat (IntKind.i64.wrap ((p0.len : Int) - (IntKind.i64.wrap (Int.tdiv p1 32)))))), (6, .val (.int .i64 x.t6))], own := spO 64 0 [(18, ⟨152, .dyn x.o18⟩)] }) I0 J0 (.seq (.seq (.reg [⟨19, 2, false⟩, ⟨20, 2, false⟩, ⟨21, 7, false⟩, ⟨22, 0, false⟩]) (.cond .leaf .leaf)) (.seq (.block (.seq (.reg [⟨25, 2, false⟩, ⟨26, 2, false⟩, ⟨27, 2, false⟩, ⟨28, 0, false⟩, ⟨29, 0, false⟩, ⟨30, 7, false⟩, ⟨31, 5, false⟩, ⟨32, 0, false⟩, ⟨7, 2, false⟩]) (.seq (.seq (.reg [⟨33, 2, false⟩, ⟨34, 2, false⟩, ⟨35, 0, false⟩, ⟨36, 0, false⟩, ⟨37, 0, false⟩, ⟨38, 2, false⟩, ⟨39, 0, false⟩, ⟨40, 0, false⟩]) (.cond (.reg [⟨41, 2, false⟩, ⟨42, 2, false⟩, ⟨43, 2, false⟩, ⟨44, 2, false⟩, ⟨45, 0, false⟩, ⟨46, 0, false⟩, ⟨47, 0, false⟩, ⟨48, 7, false⟩, ⟨49, 5, false⟩, ⟨50, 0, false⟩, ⟨51, 0, false⟩, ⟨52, 0, false⟩, ⟨7, 2, false⟩]) .leaf)) (.reg [⟨53, 2, false⟩, ⟨54, 2, false⟩, ⟨55, 2, false⟩, ⟨56, 2, false⟩, ⟨57, 0, false⟩, ⟨58, 0, false⟩, ⟨59, 12, false⟩, ⟨60, 0, false⟩, ⟨61, 7, false⟩, ⟨18, 6, false⟩])))) (.reg [⟨23, 2, false⟩, ⟨24, 0, false⟩, ⟨6, 2, false⟩])))))) (.seq (.pub 18 (.reg [⟨62, 2, false⟩, ⟨63, 10, false⟩, ⟨4, 2, false⟩])) .leaf)))))
    (Eq.mpr (by kernel_rfl) (show ref1_NatShr_sk p0 p1 V R I0 (fun c w V => ∃ x, ref1_NatShr_f0 p0 p1 c w x ∧ I0 c x V) (fun c w V y U => ∃ x, ref1_NatShr_f0 p0 p1 c w x ∧ I0 c x V ∧ J0 c x V < J0 c y U) from by
    have h := Eq.mpr e h; unfold ref1_NatShr_sk at h ⊢; have Ee0 := fun c w V (h : I0 c w V) => (⟨w, ⟨⟨rfl, rfl, rfl, rfl, trivial⟩, ⟨rfl, trivial⟩⟩, h⟩ : ∃ x, ref1_NatShr_f0 p0 p1 c w x ∧ I0 c x V); have Bb0 := fun c w V y U (h : I0 c w V ∧ J0 c w V < J0 c y U) => (⟨w, ⟨⟨rfl, rfl, rfl, rfl, trivial⟩, ⟨rfl, trivial⟩⟩, h⟩ : ∃ x, ref1_NatShr_f0 p0 p1 c w x ∧ I0 c x V ∧ J0 c x V < J0 c y U); exact ⟨fun h13 => (h.1 h13), fun h13 => ⟨(h.2 h13).1, ⟨(Ee0 _ _ _ (h.2 h13).2.1), fun x2 V1 h11 h12 => ⟨fun h10 => ⟨(((h.2 h13).2.2 x2 V1 h11 h12).1 h10).1, (match (((h.2 h13).2.2 x2 V1 h11 h12).1 h10).2 with | ⟨x3, h5, h4⟩ => ⟨x3, h5, ⟨fun h3 => ⟨(h4.1 h3).1, (match (h4.1 h3).2 with | ⟨x4, h2, h1⟩ => ⟨x4, h2, ⟨h1.1, ⟨h1.2.1, ⟨h1.2.2.1, (Bb0 _ _ _ _ _ h1.2.2.2)⟩⟩⟩⟩)⟩, fun h3 => ⟨(h4.2 h3).1, ⟨(h4.2 h3).2.1, ⟨(h4.2 h3).2.2.1, (Bb0 _ _ _ _ _ (h4.2 h3).2.2.2)⟩⟩⟩⟩⟩)⟩, fun h10 => (fun b1 V2 h8 h9 => (CallV.mono ((((h.2 h13).2.2 x2 V1 h11 h12).2 h10) b1 V2 h8 h9) (fun _ _ _ ⟨r1, h7, h6⟩ => ⟨r1, h7, h6⟩)))⟩⟩⟩⟩))

/-- waveport/waveportref01.NatShr -/
theorem ref1_NatShr_vc : type_of% (fun p0 p1 V R I0 J0 => ref1_NatShr_v0 p0 p1 V R I0 J0 (ref1_NatShr_sk.eq_1 ..)) := fun p0 p1 V R I0 J0 => ref1_NatShr_v0 p0 p1 V R I0 J0 (ref1_NatShr_sk.eq_1 ..)

end Go.Proofs.YtcapadojlaojkaaGreat
