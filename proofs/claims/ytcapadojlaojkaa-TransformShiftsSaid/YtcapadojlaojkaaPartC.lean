/- Part of the proof; it has the parts FNat2 CNat3 CNat4 CNat5 VDiv2 FNat3 CNat6. -/
import Derived.Test.YtcapadojlaojkaaPartB
set_option maxRecDepth 100000
set_option maxHeartbeats 4000000
namespace Go.Proofs.Ytcapadojlaojkaa
open Go Go.Vc Go.Proofs

/-- math/bits.Div32 -/
theorem bits_Div32_vc (p0 : Int) (p1 : Int) (p2 : Int) (V : View) (R : Value → View → Prop) 
  (h :
    (((p2 : Int) != 0) = true →
    ((decide ((p2 : Int) ≤ p0)) = true →
      False) ∧
    ((decide ((p2 : Int) ≤ p0)) = false →
      ((IntKind.u64.wrap p2) : Int) ≠ 0 ∧
    ((IntKind.u64.wrap p2) : Int) ≠ 0 ∧
    R (.tuple #[.int .u32 (IntKind.u32.wrap (IntKind.u64.wrap (Int.tdiv (IntKind.u64.wrap (BitVec.toNat ((BitVec.ofInt IntKind.u64.bits (IntKind.u64.wrap ((IntKind.u64.wrap p0) * 2 ^ (min (Int.toNat 32) (IntKind.u64.bits))))) ||| (BitVec.ofInt IntKind.u64.bits (IntKind.u64.wrap p1))))) (IntKind.u64.wrap p2)))), .int .u32 (IntKind.u32.wrap (Int.tmod (IntKind.u64.wrap (BitVec.toNat ((BitVec.ofInt IntKind.u64.bits (IntKind.u64.wrap ((IntKind.u64.wrap p0) * 2 ^ (min (Int.toNat 32) (IntKind.u64.bits))))) ||| (BitVec.ofInt IntKind.u64.bits (IntKind.u64.wrap p1))))) (IntKind.u64.wrap p2)))]) V)) ∧
    (((p2 : Int) != 0) = false →
    (false = true →
      False) ∧
    (false = false →
      ((IntKind.u64.wrap p2) : Int) ≠ 0 ∧
    ((IntKind.u64.wrap p2) : Int) ≠ 0 ∧
    R (.tuple #[.int .u32 (IntKind.u32.wrap (IntKind.u64.wrap (Int.tdiv (IntKind.u64.wrap (BitVec.toNat ((BitVec.ofInt IntKind.u64.bits (IntKind.u64.wrap ((IntKind.u64.wrap p0) * 2 ^ (min (Int.toNat 32) (IntKind.u64.bits))))) ||| (BitVec.ofInt IntKind.u64.bits (IntKind.u64.wrap p1))))) (IntKind.u64.wrap p2)))), .int .u32 (IntKind.u32.wrap (Int.tmod (IntKind.u64.wrap (BitVec.toNat ((BitVec.ofInt IntKind.u64.bits (IntKind.u64.wrap ((IntKind.u64.wrap p0) * 2 ^ (min (Int.toNat 32) (IntKind.u64.bits))))) ||| (BitVec.ofInt IntKind.u64.bits (IntKind.u64.wrap p1))))) (IntKind.u64.wrap p2)))]) V))) :
  CallV Try.prog 175 #[.int .u32 p0, .int .u32 p1, .int .u32 p2] V R :=
  calls_of_vc (Shp := Shp) hmixed Try.func175 (c := Try.f175.body.getD .skip) (args := [.int .u32 p0, .int .u32 p1, .int .u32 p2]) (by kernel_rfl)
    (.seq (.reg [⟨6, 2, false⟩, ⟨7, 2, false⟩]) (.seq (.seq (.reg [⟨9, 2, false⟩, ⟨10, 0, false⟩, ⟨11, 2, true⟩, ⟨12, 2, false⟩, ⟨13, 2, false⟩, ⟨14, 0, false⟩, ⟨15, 2, false⟩]) (.cond (.reg [⟨0, 10, false⟩, ⟨0, 0, false⟩]) .leaf)) (.seq (.reg [⟨17, 2, false⟩, ⟨18, 0, false⟩, ⟨19, 0, false⟩, ⟨20, 2, false⟩, ⟨21, 0, false⟩, ⟨22, 0, false⟩, ⟨8, 2, false⟩]) (.seq (.draw [(0, ⟨23, 2, false⟩), (1, ⟨24, 2, false⟩), (2, ⟨25, 0, false⟩), (3, ⟨26, 12, false⟩), (4, ⟨27, 0, false⟩), (5, ⟨28, 2, false⟩), (6, ⟨29, 2, false⟩), (7, ⟨30, 0, false⟩), (8, ⟨31, 12, false⟩), (9, ⟨32, 0, false⟩), (10, ⟨6, 2, false⟩), (11, ⟨7, 2, false⟩)] [0, 0, 2, 7, 15, 0, 0, 64, 224, 480, 31, 2047]) .leaf))))
    (Eq.mpr (by kernel_rfl) h)

structure L_nat_short_0 where
  t7 : Int
  t8 : Int
  o11 : List Value
/-- (waveport/num.nat).short -/
theorem nat_short_vc (p0 : Sl) (p1 : Int) (V : View) (R : Value → View → Prop) (I_nat_short_0 : Unit → L_nat_short_0 → View → Prop) (mu_nat_short_0 : Unit → L_nat_short_0 → View → Nat)
  (h :
    ((0 : Int) ≤ (p0.len : Int) ∧ ((p0.len : Int) : Int) ≤ (p0.len : Int) ∧ (4 : Int) * (p0.len : Int) ≤ 281474976710656 ∧ ((p0.len : Int) : Int) ≤ 9223372036854775807) ∧
    I_nat_short_0 () (L_nat_short_0.mk 0 (IntKind.i64.wrap ((p0.len : Int) - 1)) ((List.replicate (Int.toNat (p0.len : Int)) [Value.int .u32 0]).flatten)) V ∧
    (∀ (x2 : L_nat_short_0) (V1 : View), View.le V V1 → I_nat_short_0 () x2 V1 →
      ((decide ((x2.t8 : Int) ≥ 0)) = true →
        ((0 : Int) ≤ x2.t8 ∧ (x2.t8 : Int) < (p0.len : Nat) ∧ Option.isSome p0.a = true) ∧
      ∃ x3 : Int, View.load V1 (Option.map (fun q => Addr.add q (Int.toNat x2.t8 * 1)) p0.a) = some (.int .u32 x3) ∧
      CallV Try.prog 175 #[.int .u32 x2.t7, .int .u32 x3, .int .u32 p1] V1 fun v V2 => ∃ (r1 : Int) (r2 : Int), v = .tuple #[.int .u32 r1, .int .u32 r2] ∧ -- math/bits.Div32
      ((0 : Int) ≤ x2.t8 ∧ (x2.t8 : Int) < (Int.toNat (p0.len : Int) : Nat)) ∧
      0 + Int.toNat x2.t8 * 1 + 1 ≤ List.length x2.o11 ∧
      I_nat_short_0 () (L_nat_short_0.mk r2 (IntKind.i64.wrap (x2.t8 - 1)) (List.set x2.o11 (0 + Int.toNat x2.t8 * 1) (.int .u32 r1))) V2 ∧ mu_nat_short_0 () (L_nat_short_0.mk r2 (IntKind.i64.wrap (x2.t8 - 1)) (List.set x2.o11 (0 + Int.toNat x2.t8 * 1) (.int .u32 r1))) V2 < mu_nat_short_0 () x2 V1) ∧
      ((decide ((x2.t8 : Int) ≥ 0)) = false →
        ∀ (b1 : Nat) (V3 : View), View.le V1 V3 → V3 b1 = some (List.toArray x2.o11) →
    CallV Try.prog 147 #[(Sl.mk (some (Addr.mk b1 0 none)) (Int.toNat (p0.len : Int)) (Int.toNat (p0.len : Int))).v] V3 fun v V4 => ∃ r3 : Sl, v = r3.v ∧ -- num.trim
    R (.tuple #[r3.v, .int .u32 x2.t7]) V4))) :
  CallV Try.prog 158 #[p0.v, .int .u32 p1] V R :=
  calls_of_vc (Shp := Shp) hmixed Try.func158 (c := Try.f158.body.getD .skip) (args := [p0.v, .int .u32 p1]) (by kernel_rfl)
    (.seq (.reg [⟨4, 2, false⟩, ⟨5, 2, false⟩]) (.seq (.reg [⟨9, 2, false⟩, ⟨10, 0, false⟩, ⟨11, 3, false⟩, ⟨6, 2, false⟩]) (.seq (.reg [⟨7, 2, false⟩]) (.seq (.seq (.reg [⟨12, 2, false⟩, ⟨13, 0, false⟩, ⟨14, 0, false⟩, ⟨8, 2, false⟩]) (.block (.loop Unit L_nat_short_0 (fun _ => ()) (fun c x => { tm := spT 35 0 [(0, .val (p0.v)), (1, .val (.int .u32 p1)), (6, .osl 11 0 (Int.toNat (p0.len : Int)) (Int.toNat (p0.len : Int))), (7, .val (.int .u32 x.t7)), (8, .val (.int .i64 x.t8))], own := spO 35 0 [(11, ⟨142, .dyn x.o11⟩)] }) I_nat_short_0 mu_nat_short_0 (.seq (.seq (.reg [⟨15, 2, false⟩, ⟨16, 0, false⟩]) (.cond .leaf .leaf)) (.seq (.block (.reg [⟨20, 2, false⟩, ⟨21, 2, false⟩, ⟨22, 2, false⟩, ⟨23, 2, false⟩, ⟨24, 2, false⟩, ⟨25, 7, false⟩, ⟨26, 5, false⟩, ⟨27, 2, false⟩, ⟨28, 10, false⟩, ⟨19, 2, false⟩, ⟨29, 0, false⟩, ⟨30, 0, false⟩, ⟨31, 7, false⟩, ⟨11, 6, false⟩, ⟨7, 2, false⟩])) (.reg [⟨17, 2, false⟩, ⟨18, 0, false⟩, ⟨8, 2, false⟩])))))) (.seq (.pub 11 (.reg [⟨32, 2, false⟩, ⟨33, 10, false⟩, ⟨34, 2, false⟩, ⟨4, 2, false⟩, ⟨5, 2, false⟩])) .leaf)))))
    (Eq.mpr (by kernel_rfl) (show ((0 : Int) ≤ (p0.len : Int) ∧ ((p0.len : Int) : Int) ≤ (p0.len : Int) ∧ (4 : Int) * (p0.len : Int) ≤ 281474976710656 ∧ ((p0.len : Int) : Int) ≤ 9223372036854775807) ∧
    (∃ x1 : L_nat_short_0, ((SV.val (p0.v) = SV.val (p0.v) ∧ SV.val (.int .u32 p1) = SV.val (.int .u32 p1) ∧ SV.osl 11 0 (Int.toNat (p0.len : Int)) (Int.toNat (p0.len : Int)) = SV.osl 11 0 (Int.toNat (p0.len : Int)) (Int.toNat (p0.len : Int)) ∧ SV.val (.int .u32 0) = SV.val (.int .u32 x1.t7) ∧ SV.val (.int .i64 (IntKind.i64.wrap ((p0.len : Int) - 1))) = SV.val (.int .i64 x1.t8) ∧ True) ∧ ((some (⟨142, .dyn ((List.replicate (Int.toNat (p0.len : Int)) [Value.int .u32 0]).flatten)⟩) : Option OB) = some (⟨142, .dyn x1.o11⟩) ∧ True)) ∧ I_nat_short_0 () x1 V) ∧
    (∀ (x2 : L_nat_short_0) (V1 : View), View.le V V1 → I_nat_short_0 () x2 V1 →
      ((decide ((x2.t8 : Int) ≥ 0)) = true →
        ((0 : Int) ≤ x2.t8 ∧ (x2.t8 : Int) < (p0.len : Nat) ∧ Option.isSome p0.a = true) ∧
      ∃ x3 : Int, View.load V1 (Option.map (fun q => Addr.add q (Int.toNat x2.t8 * 1)) p0.a) = some (.int .u32 x3) ∧
      CallV Try.prog 175 #[.int .u32 x2.t7, .int .u32 x3, .int .u32 p1] V1 fun v V2 => ∃ (r1 : Int) (r2 : Int), v = .tuple #[.int .u32 r1, .int .u32 r2] ∧ -- math/bits.Div32
      ((0 : Int) ≤ x2.t8 ∧ (x2.t8 : Int) < (Int.toNat (p0.len : Int) : Nat)) ∧
      0 + Int.toNat x2.t8 * 1 + 1 ≤ List.length x2.o11 ∧
      ∃ x4 : L_nat_short_0, ((SV.val (p0.v) = SV.val (p0.v) ∧ SV.val (.int .u32 p1) = SV.val (.int .u32 p1) ∧ SV.osl 11 0 (Int.toNat (p0.len : Int)) (Int.toNat (p0.len : Int)) = SV.osl 11 0 (Int.toNat (p0.len : Int)) (Int.toNat (p0.len : Int)) ∧ SV.val (.int .u32 r2) = SV.val (.int .u32 x4.t7) ∧ SV.val (.int .i64 (IntKind.i64.wrap (x2.t8 - 1))) = SV.val (.int .i64 x4.t8) ∧ True) ∧ ((some (⟨142, .dyn (List.set x2.o11 (0 + Int.toNat x2.t8 * 1) (.int .u32 r1))⟩) : Option OB) = some (⟨142, .dyn x4.o11⟩) ∧ True)) ∧ I_nat_short_0 () x4 V2 ∧ mu_nat_short_0 () x4 V2 < mu_nat_short_0 () x2 V1) ∧
      ((decide ((x2.t8 : Int) ≥ 0)) = false →
        ∀ (b1 : Nat) (V3 : View), View.le V1 V3 → V3 b1 = some (List.toArray x2.o11) →
    CallV Try.prog 147 #[(Sl.mk (some (Addr.mk b1 0 none)) (Int.toNat (p0.len : Int)) (Int.toNat (p0.len : Int))).v] V3 fun v V4 => ∃ r3 : Sl, v = r3.v ∧ -- num.trim
    R (.tuple #[r3.v, .int .u32 x2.t7]) V4)) from ⟨h.1, ⟨⟨(L_nat_short_0.mk 0 (IntKind.i64.wrap ((p0.len : Int) - 1)) ((List.replicate (Int.toNat (p0.len : Int)) [Value.int .u32 0]).flatten)), ⟨⟨rfl, rfl, rfl, rfl, rfl, trivial⟩, ⟨rfl, trivial⟩⟩, h.2.1⟩, fun x2 V1 h10 h11 => ⟨fun h9 => ⟨((h.2.2 x2 V1 h10 h11).1 h9).1, (match ((h.2.2 x2 V1 h10 h11).1 h9).2 with | ⟨x3, h4, h3⟩ => ⟨x3, h4, (CallV.mono h3 (fun _ _ _ ⟨r1, r2, h2, h1⟩ => ⟨r1, r2, h2, ⟨h1.1, ⟨h1.2.1, ⟨(L_nat_short_0.mk r2 (IntKind.i64.wrap (x2.t8 - 1)) (List.set x2.o11 (0 + Int.toNat x2.t8 * 1) (.int .u32 r1))), ⟨⟨rfl, rfl, rfl, rfl, rfl, trivial⟩, ⟨rfl, trivial⟩⟩, h1.2.2.1, h1.2.2.2⟩⟩⟩⟩))⟩)⟩, fun h9 => (fun b1 V3 h7 h8 => (CallV.mono (((h.2.2 x2 V1 h10 h11).2 h9) b1 V3 h7 h8) (fun _ _ _ ⟨r3, h6, h5⟩ => ⟨r3, h6, h5⟩)))⟩⟩⟩))

/-- math/bits.Len32 -/
theorem bits_Len32_vc (p0 : Int) (V : View) (R : Value → View → Prop) 
  (h :
    ((decide ((p0 : Int) ≥ 65536)) = true →
      ((decide (((Int.fdiv p0 (2 ^ (min (Int.toNat 16) (IntKind.u32.bits)))) : Int) ≥ 256)) = true →
      ((0 : Int) ≤ (IntKind.u8.wrap (Int.fdiv (Int.fdiv p0 (2 ^ (min (Int.toNat 16) (IntKind.u32.bits)))) (2 ^ (min (Int.toNat 8) (IntKind.u32.bits))))) ∧ ((IntKind.u8.wrap (Int.fdiv (Int.fdiv p0 (2 ^ (min (Int.toNat 16) (IntKind.u32.bits)))) (2 ^ (min (Int.toNat 8) (IntKind.u32.bits))))) : Int) < (ByteArray.size (ByteArray.mk #[0, 1, 2, 2, 3, 3, 3, 3, 4, 4, 4, 4, 4, 4, 4, 4, 5, 5, 5, 5, 5, 5, 5, 5, 5, 5, 5, 5, 5, 5, 5, 5, 6, 6, 6, 6, 6, 6, 6, 6, 6, 6, 6, 6, 6, 6, 6, 6, 6, 6, 6, 6, 6, 6, 6, 6, 6, 6, 6, 6, 6, 6, 6, 6, 7, 7, 7, 7, 7, 7, 7, 7, 7, 7, 7, 7, 7, 7, 7, 7, 7, 7, 7, 7, 7, 7, 7, 7, 7, 7, 7, 7, 7, 7, 7, 7, 7, 7, 7, 7, 7, 7, 7, 7, 7, 7, 7, 7, 7, 7, 7, 7, 7, 7, 7, 7, 7, 7, 7, 7, 7, 7, 7, 7, 7, 7, 7, 7, 8, 8, 8, 8, 8, 8, 8, 8, 8, 8, 8, 8, 8, 8, 8, 8, 8, 8, 8, 8, 8, 8, 8, 8, 8, 8, 8, 8, 8, 8, 8, 8, 8, 8, 8, 8, 8, 8, 8, 8, 8, 8, 8, 8, 8, 8, 8, 8, 8, 8, 8, 8, 8, 8, 8, 8, 8, 8, 8, 8, 8, 8, 8, 8, 8, 8, 8, 8, 8, 8, 8, 8, 8, 8, 8, 8, 8, 8, 8, 8, 8, 8, 8, 8, 8, 8, 8, 8, 8, 8, 8, 8, 8, 8, 8, 8, 8, 8, 8, 8, 8, 8, 8, 8, 8, 8, 8, 8, 8, 8, 8, 8, 8, 8, 8, 8, 8, 8, 8, 8, 8, 8, 8, 8, 8, 8, 8, 8]) : Nat)) ∧
    R (.int .i64 (IntKind.i64.wrap ((IntKind.i64.wrap (16 + 8)) + (IntKind.i64.wrap (strAt (ByteArray.mk #[0, 1, 2, 2, 3, 3, 3, 3, 4, 4, 4, 4, 4, 4, 4, 4, 5, 5, 5, 5, 5, 5, 5, 5, 5, 5, 5, 5, 5, 5, 5, 5, 6, 6, 6, 6, 6, 6, 6, 6, 6, 6, 6, 6, 6, 6, 6, 6, 6, 6, 6, 6, 6, 6, 6, 6, 6, 6, 6, 6, 6, 6, 6, 6, 7, 7, 7, 7, 7, 7, 7, 7, 7, 7, 7, 7, 7, 7, 7, 7, 7, 7, 7, 7, 7, 7, 7, 7, 7, 7, 7, 7, 7, 7, 7, 7, 7, 7, 7, 7, 7, 7, 7, 7, 7, 7, 7, 7, 7, 7, 7, 7, 7, 7, 7, 7, 7, 7, 7, 7, 7, 7, 7, 7, 7, 7, 7, 7, 8, 8, 8, 8, 8, 8, 8, 8, 8, 8, 8, 8, 8, 8, 8, 8, 8, 8, 8, 8, 8, 8, 8, 8, 8, 8, 8, 8, 8, 8, 8, 8, 8, 8, 8, 8, 8, 8, 8, 8, 8, 8, 8, 8, 8, 8, 8, 8, 8, 8, 8, 8, 8, 8, 8, 8, 8, 8, 8, 8, 8, 8, 8, 8, 8, 8, 8, 8, 8, 8, 8, 8, 8, 8, 8, 8, 8, 8, 8, 8, 8, 8, 8, 8, 8, 8, 8, 8, 8, 8, 8, 8, 8, 8, 8, 8, 8, 8, 8, 8, 8, 8, 8, 8, 8, 8, 8, 8, 8, 8, 8, 8, 8, 8, 8, 8, 8, 8, 8, 8, 8, 8, 8, 8, 8, 8, 8, 8]) (Int.toNat (IntKind.u8.wrap (Int.fdiv (Int.fdiv p0 (2 ^ (min (Int.toNat 16) (IntKind.u32.bits)))) (2 ^ (min (Int.toNat 8) (IntKind.u32.bits))))))))))) V) ∧
    ((decide (((Int.fdiv p0 (2 ^ (min (Int.toNat 16) (IntKind.u32.bits)))) : Int) ≥ 256)) = false →
      ((0 : Int) ≤ (IntKind.u8.wrap (Int.fdiv p0 (2 ^ (min (Int.toNat 16) (IntKind.u32.bits))))) ∧ ((IntKind.u8.wrap (Int.fdiv p0 (2 ^ (min (Int.toNat 16) (IntKind.u32.bits))))) : Int) < (ByteArray.size (ByteArray.mk #[0, 1, 2, 2, 3, 3, 3, 3, 4, 4, 4, 4, 4, 4, 4, 4, 5, 5, 5, 5, 5, 5, 5, 5, 5, 5, 5, 5, 5, 5, 5, 5, 6, 6, 6, 6, 6, 6, 6, 6, 6, 6, 6, 6, 6, 6, 6, 6, 6, 6, 6, 6, 6, 6, 6, 6, 6, 6, 6, 6, 6, 6, 6, 6, 7, 7, 7, 7, 7, 7, 7, 7, 7, 7, 7, 7, 7, 7, 7, 7, 7, 7, 7, 7, 7, 7, 7, 7, 7, 7, 7, 7, 7, 7, 7, 7, 7, 7, 7, 7, 7, 7, 7, 7, 7, 7, 7, 7, 7, 7, 7, 7, 7, 7, 7, 7, 7, 7, 7, 7, 7, 7, 7, 7, 7, 7, 7, 7, 8, 8, 8, 8, 8, 8, 8, 8, 8, 8, 8, 8, 8, 8, 8, 8, 8, 8, 8, 8, 8, 8, 8, 8, 8, 8, 8, 8, 8, 8, 8, 8, 8, 8, 8, 8, 8, 8, 8, 8, 8, 8, 8, 8, 8, 8, 8, 8, 8, 8, 8, 8, 8, 8, 8, 8, 8, 8, 8, 8, 8, 8, 8, 8, 8, 8, 8, 8, 8, 8, 8, 8, 8, 8, 8, 8, 8, 8, 8, 8, 8, 8, 8, 8, 8, 8, 8, 8, 8, 8, 8, 8, 8, 8, 8, 8, 8, 8, 8, 8, 8, 8, 8, 8, 8, 8, 8, 8, 8, 8, 8, 8, 8, 8, 8, 8, 8, 8, 8, 8, 8, 8, 8, 8, 8, 8, 8, 8]) : Nat)) ∧
    R (.int .i64 (IntKind.i64.wrap (16 + (IntKind.i64.wrap (strAt (ByteArray.mk #[0, 1, 2, 2, 3, 3, 3, 3, 4, 4, 4, 4, 4, 4, 4, 4, 5, 5, 5, 5, 5, 5, 5, 5, 5, 5, 5, 5, 5, 5, 5, 5, 6, 6, 6, 6, 6, 6, 6, 6, 6, 6, 6, 6, 6, 6, 6, 6, 6, 6, 6, 6, 6, 6, 6, 6, 6, 6, 6, 6, 6, 6, 6, 6, 7, 7, 7, 7, 7, 7, 7, 7, 7, 7, 7, 7, 7, 7, 7, 7, 7, 7, 7, 7, 7, 7, 7, 7, 7, 7, 7, 7, 7, 7, 7, 7, 7, 7, 7, 7, 7, 7, 7, 7, 7, 7, 7, 7, 7, 7, 7, 7, 7, 7, 7, 7, 7, 7, 7, 7, 7, 7, 7, 7, 7, 7, 7, 7, 8, 8, 8, 8, 8, 8, 8, 8, 8, 8, 8, 8, 8, 8, 8, 8, 8, 8, 8, 8, 8, 8, 8, 8, 8, 8, 8, 8, 8, 8, 8, 8, 8, 8, 8, 8, 8, 8, 8, 8, 8, 8, 8, 8, 8, 8, 8, 8, 8, 8, 8, 8, 8, 8, 8, 8, 8, 8, 8, 8, 8, 8, 8, 8, 8, 8, 8, 8, 8, 8, 8, 8, 8, 8, 8, 8, 8, 8, 8, 8, 8, 8, 8, 8, 8, 8, 8, 8, 8, 8, 8, 8, 8, 8, 8, 8, 8, 8, 8, 8, 8, 8, 8, 8, 8, 8, 8, 8, 8, 8, 8, 8, 8, 8, 8, 8, 8, 8, 8, 8, 8, 8, 8, 8, 8, 8, 8, 8]) (Int.toNat (IntKind.u8.wrap (Int.fdiv p0 (2 ^ (min (Int.toNat 16) (IntKind.u32.bits))))))))))) V)) ∧
    ((decide ((p0 : Int) ≥ 65536)) = false →
      ((decide ((p0 : Int) ≥ 256)) = true →
      ((0 : Int) ≤ (IntKind.u8.wrap (Int.fdiv p0 (2 ^ (min (Int.toNat 8) (IntKind.u32.bits))))) ∧ ((IntKind.u8.wrap (Int.fdiv p0 (2 ^ (min (Int.toNat 8) (IntKind.u32.bits))))) : Int) < (ByteArray.size (ByteArray.mk #[0, 1, 2, 2, 3, 3, 3, 3, 4, 4, 4, 4, 4, 4, 4, 4, 5, 5, 5, 5, 5, 5, 5, 5, 5, 5, 5, 5, 5, 5, 5, 5, 6, 6, 6, 6, 6, 6, 6, 6, 6, 6, 6, 6, 6, 6, 6, 6, 6, 6, 6, 6, 6, 6, 6, 6, 6, 6, 6, 6, 6, 6, 6, 6, 7, 7, 7, 7, 7, 7, 7, 7, 7, 7, 7, 7, 7, 7, 7, 7, 7, 7, 7, 7, 7, 7, 7, 7, 7, 7, 7, 7, 7, 7, 7, 7, 7, 7, 7, 7, 7, 7, 7, 7, 7, 7, 7, 7, 7, 7, 7, 7, 7, 7, 7, 7, 7, 7, 7, 7, 7, 7, 7, 7, 7, 7, 7, 7, 8, 8, 8, 8, 8, 8, 8, 8, 8, 8, 8, 8, 8, 8, 8, 8, 8, 8, 8, 8, 8, 8, 8, 8, 8, 8, 8, 8, 8, 8, 8, 8, 8, 8, 8, 8, 8, 8, 8, 8, 8, 8, 8, 8, 8, 8, 8, 8, 8, 8, 8, 8, 8, 8, 8, 8, 8, 8, 8, 8, 8, 8, 8, 8, 8, 8, 8, 8, 8, 8, 8, 8, 8, 8, 8, 8, 8, 8, 8, 8, 8, 8, 8, 8, 8, 8, 8, 8, 8, 8, 8, 8, 8, 8, 8, 8, 8, 8, 8, 8, 8, 8, 8, 8, 8, 8, 8, 8, 8, 8, 8, 8, 8, 8, 8, 8, 8, 8, 8, 8, 8, 8, 8, 8, 8, 8, 8, 8]) : Nat)) ∧
    R (.int .i64 (IntKind.i64.wrap ((IntKind.i64.wrap (0 + 8)) + (IntKind.i64.wrap (strAt (ByteArray.mk #[0, 1, 2, 2, 3, 3, 3, 3, 4, 4, 4, 4, 4, 4, 4, 4, 5, 5, 5, 5, 5, 5, 5, 5, 5, 5, 5, 5, 5, 5, 5, 5, 6, 6, 6, 6, 6, 6, 6, 6, 6, 6, 6, 6, 6, 6, 6, 6, 6, 6, 6, 6, 6, 6, 6, 6, 6, 6, 6, 6, 6, 6, 6, 6, 7, 7, 7, 7, 7, 7, 7, 7, 7, 7, 7, 7, 7, 7, 7, 7, 7, 7, 7, 7, 7, 7, 7, 7, 7, 7, 7, 7, 7, 7, 7, 7, 7, 7, 7, 7, 7, 7, 7, 7, 7, 7, 7, 7, 7, 7, 7, 7, 7, 7, 7, 7, 7, 7, 7, 7, 7, 7, 7, 7, 7, 7, 7, 7, 8, 8, 8, 8, 8, 8, 8, 8, 8, 8, 8, 8, 8, 8, 8, 8, 8, 8, 8, 8, 8, 8, 8, 8, 8, 8, 8, 8, 8, 8, 8, 8, 8, 8, 8, 8, 8, 8, 8, 8, 8, 8, 8, 8, 8, 8, 8, 8, 8, 8, 8, 8, 8, 8, 8, 8, 8, 8, 8, 8, 8, 8, 8, 8, 8, 8, 8, 8, 8, 8, 8, 8, 8, 8, 8, 8, 8, 8, 8, 8, 8, 8, 8, 8, 8, 8, 8, 8, 8, 8, 8, 8, 8, 8, 8, 8, 8, 8, 8, 8, 8, 8, 8, 8, 8, 8, 8, 8, 8, 8, 8, 8, 8, 8, 8, 8, 8, 8, 8, 8, 8, 8, 8, 8, 8, 8, 8, 8]) (Int.toNat (IntKind.u8.wrap (Int.fdiv p0 (2 ^ (min (Int.toNat 8) (IntKind.u32.bits))))))))))) V) ∧
    ((decide ((p0 : Int) ≥ 256)) = false →
      ((0 : Int) ≤ (IntKind.u8.wrap p0) ∧ ((IntKind.u8.wrap p0) : Int) < (ByteArray.size (ByteArray.mk #[0, 1, 2, 2, 3, 3, 3, 3, 4, 4, 4, 4, 4, 4, 4, 4, 5, 5, 5, 5, 5, 5, 5, 5, 5, 5, 5, 5, 5, 5, 5, 5, 6, 6, 6, 6, 6, 6, 6, 6, 6, 6, 6, 6, 6, 6, 6, 6, 6, 6, 6, 6, 6, 6, 6, 6, 6, 6, 6, 6, 6, 6, 6, 6, 7, 7, 7, 7, 7, 7, 7, 7, 7, 7, 7, 7, 7, 7, 7, 7, 7, 7, 7, 7, 7, 7, 7, 7, 7, 7, 7, 7, 7, 7, 7, 7, 7, 7, 7, 7, 7, 7, 7, 7, 7, 7, 7, 7, 7, 7, 7, 7, 7, 7, 7, 7, 7, 7, 7, 7, 7, 7, 7, 7, 7, 7, 7, 7, 8, 8, 8, 8, 8, 8, 8, 8, 8, 8, 8, 8, 8, 8, 8, 8, 8, 8, 8, 8, 8, 8, 8, 8, 8, 8, 8, 8, 8, 8, 8, 8, 8, 8, 8, 8, 8, 8, 8, 8, 8, 8, 8, 8, 8, 8, 8, 8, 8, 8, 8, 8, 8, 8, 8, 8, 8, 8, 8, 8, 8, 8, 8, 8, 8, 8, 8, 8, 8, 8, 8, 8, 8, 8, 8, 8, 8, 8, 8, 8, 8, 8, 8, 8, 8, 8, 8, 8, 8, 8, 8, 8, 8, 8, 8, 8, 8, 8, 8, 8, 8, 8, 8, 8, 8, 8, 8, 8, 8, 8, 8, 8, 8, 8, 8, 8, 8, 8, 8, 8, 8, 8, 8, 8, 8, 8, 8, 8]) : Nat)) ∧
    R (.int .i64 (IntKind.i64.wrap (0 + (IntKind.i64.wrap (strAt (ByteArray.mk #[0, 1, 2, 2, 3, 3, 3, 3, 4, 4, 4, 4, 4, 4, 4, 4, 5, 5, 5, 5, 5, 5, 5, 5, 5, 5, 5, 5, 5, 5, 5, 5, 6, 6, 6, 6, 6, 6, 6, 6, 6, 6, 6, 6, 6, 6, 6, 6, 6, 6, 6, 6, 6, 6, 6, 6, 6, 6, 6, 6, 6, 6, 6, 6, 7, 7, 7, 7, 7, 7, 7, 7, 7, 7, 7, 7, 7, 7, 7, 7, 7, 7, 7, 7, 7, 7, 7, 7, 7, 7, 7, 7, 7, 7, 7, 7, 7, 7, 7, 7, 7, 7, 7, 7, 7, 7, 7, 7, 7, 7, 7, 7, 7, 7, 7, 7, 7, 7, 7, 7, 7, 7, 7, 7, 7, 7, 7, 7, 8, 8, 8, 8, 8, 8, 8, 8, 8, 8, 8, 8, 8, 8, 8, 8, 8, 8, 8, 8, 8, 8, 8, 8, 8, 8, 8, 8, 8, 8, 8, 8, 8, 8, 8, 8, 8, 8, 8, 8, 8, 8, 8, 8, 8, 8, 8, 8, 8, 8, 8, 8, 8, 8, 8, 8, 8, 8, 8, 8, 8, 8, 8, 8, 8, 8, 8, 8, 8, 8, 8, 8, 8, 8, 8, 8, 8, 8, 8, 8, 8, 8, 8, 8, 8, 8, 8, 8, 8, 8, 8, 8, 8, 8, 8, 8, 8, 8, 8, 8, 8, 8, 8, 8, 8, 8, 8, 8, 8, 8, 8, 8, 8, 8, 8, 8, 8, 8, 8, 8, 8, 8, 8, 8, 8, 8, 8, 8]) (Int.toNat (IntKind.u8.wrap p0))))))) V))) :
  CallV Try.prog 176 #[.int .u32 p0] V R :=
  calls_of_vc (Shp := Shp) hmixed Try.func176 (c := Try.f176.body.getD .skip) (args := [.int .u32 p0]) (by kernel_rfl)
    (.seq (.reg [⟨2, 2, false⟩]) (.seq (.seq (.reg [⟨3, 2, false⟩, ⟨4, 0, false⟩]) (.cond (.seq (.reg [⟨5, 2, false⟩, ⟨6, 0, false⟩, ⟨0, 2, false⟩]) (.reg [⟨2, 2, false⟩])) .leaf)) (.seq (.seq (.reg [⟨7, 2, false⟩, ⟨8, 0, false⟩]) (.cond (.seq (.reg [⟨9, 2, false⟩, ⟨10, 0, false⟩, ⟨0, 2, false⟩]) (.reg [⟨11, 2, false⟩, ⟨12, 0, false⟩, ⟨2, 2, false⟩])) .leaf)) (.seq (.reg [⟨13, 2, false⟩, ⟨14, 2, false⟩, ⟨15, 0, false⟩, ⟨16, 12, false⟩, ⟨17, 0, false⟩, ⟨18, 0, false⟩, ⟨2, 2, false⟩]) .leaf))))
    (Eq.mpr (by kernel_rfl) h)

/-- math/bits.LeadingZeros32 -/
theorem bits_LeadingZeros32_vc (p0 : Int) (V : View) (R : Value → View → Prop) 
  (h :
    CallV Try.prog 176 #[.int .u32 p0] V fun v V1 => ∃ r1 : Int, v = .int .i64 r1 ∧ -- math/bits.Len32
    R (.int .i64 (IntKind.i64.wrap (32 - r1))) V1) :
  CallV Try.prog 159 #[.int .u32 p0] V R :=
  calls_of_vc (Shp := Shp) hmixed Try.func159 (c := Try.f159.body.getD .skip) (args := [.int .u32 p0]) (by kernel_rfl)
    (.seq (.reg [⟨2, 2, false⟩]) (.seq (.reg [⟨3, 2, false⟩, ⟨4, 10, false⟩, ⟨5, 0, false⟩, ⟨2, 2, false⟩]) .leaf))
    (Eq.mpr (by kernel_rfl) h)

structure L_num_take_0 where
  t9 : Int
  t10 : Int
  t18 : Int
  o0 : List Value
/-- waveport/num.take -/
theorem num_take_vc (p0o p0l p0c : Nat) (p0w : List Value) (p1 : Sl) (p2 : Int) (p3 : Int) (V : View) (R : Value → List Value → View → Prop) (I_num_take_0 : Unit → L_num_take_0 → View → Prop) (mu_num_take_0 : Unit → L_num_take_0 → View → Nat)
  (h :
    I_num_take_0 () (L_num_take_0.mk 0 0 0 p0w) V ∧
    (∀ (x2 : L_num_take_0) (V1 : View), View.le V V1 → I_num_take_0 () x2 V1 →
      ((decide ((x2.t18 : Int) < (p1.len : Int))) = true →
        ((0 : Int) ≤ x2.t18 ∧ (x2.t18 : Int) < (p1.len : Nat) ∧ Option.isSome p1.a = true) ∧
      ∃ x3 : Int, View.load V1 (Option.map (fun q => Addr.add q (Int.toNat x2.t18 * 1)) p1.a) = some (.int .u32 x3) ∧
      ((0 : Int) ≤ (IntKind.i64.wrap (x2.t18 + p3)) ∧ ((IntKind.i64.wrap (x2.t18 + p3)) : Int) < (p0l : Nat)) ∧
      ∃ x4 : Int, x2.o0[p0o + Int.toNat (IntKind.i64.wrap (x2.t18 + p3)) * 1]? = some (.int .u32 x4) ∧
      ((0 : Int) ≤ (IntKind.i64.wrap (x2.t18 + p3)) ∧ ((IntKind.i64.wrap (x2.t18 + p3)) : Int) < (p0l : Nat)) ∧
      p0o + Int.toNat (IntKind.i64.wrap (x2.t18 + p3)) * 1 + 1 ≤ List.length x2.o0 ∧
      I_num_take_0 () (L_num_take_0.mk (Int.fdiv (IntKind.u64.wrap ((IntKind.u64.wrap (p2 * (IntKind.u64.wrap x3))) + x2.t9)) (2 ^ (min (Int.toNat 32) (IntKind.u64.bits)))) (Int.fdiv (IntKind.u64.wrap ((IntKind.u64.wrap ((IntKind.u64.wrap x4) - (IntKind.u64.wrap (IntKind.u32.wrap (IntKind.u64.wrap ((IntKind.u64.wrap (p2 * (IntKind.u64.wrap x3))) + x2.t9)))))) - x2.t10)) (2 ^ (min (Int.toNat 63) (IntKind.u64.bits)))) (IntKind.i64.wrap (x2.t18 + 1)) (List.set x2.o0 (p0o + Int.toNat (IntKind.i64.wrap (x2.t18 + p3)) * 1) (.int .u32 (IntKind.u32.wrap (IntKind.u64.wrap ((IntKind.u64.wrap ((IntKind.u64.wrap x4) - (IntKind.u64.wrap (IntKind.u32.wrap (IntKind.u64.wrap ((IntKind.u64.wrap (p2 * (IntKind.u64.wrap x3))) + x2.t9)))))) - x2.t10)))))) V1 ∧ mu_num_take_0 () (L_num_take_0.mk (Int.fdiv (IntKind.u64.wrap ((IntKind.u64.wrap (p2 * (IntKind.u64.wrap x3))) + x2.t9)) (2 ^ (min (Int.toNat 32) (IntKind.u64.bits)))) (Int.fdiv (IntKind.u64.wrap ((IntKind.u64.wrap ((IntKind.u64.wrap x4) - (IntKind.u64.wrap (IntKind.u32.wrap (IntKind.u64.wrap ((IntKind.u64.wrap (p2 * (IntKind.u64.wrap x3))) + x2.t9)))))) - x2.t10)) (2 ^ (min (Int.toNat 63) (IntKind.u64.bits)))) (IntKind.i64.wrap (x2.t18 + 1)) (List.set x2.o0 (p0o + Int.toNat (IntKind.i64.wrap (x2.t18 + p3)) * 1) (.int .u32 (IntKind.u32.wrap (IntKind.u64.wrap ((IntKind.u64.wrap ((IntKind.u64.wrap x4) - (IntKind.u64.wrap (IntKind.u32.wrap (IntKind.u64.wrap ((IntKind.u64.wrap (p2 * (IntKind.u64.wrap x3))) + x2.t9)))))) - x2.t10)))))) V1 < mu_num_take_0 () x2 V1) ∧
      ((decide ((x2.t18 : Int) < (p1.len : Int))) = false →
        ((0 : Int) ≤ (IntKind.i64.wrap (p3 + (p1.len : Int))) ∧ ((IntKind.i64.wrap (p3 + (p1.len : Int))) : Int) < (p0l : Nat)) ∧
    ∃ x6 : Int, x2.o0[p0o + Int.toNat (IntKind.i64.wrap (p3 + (p1.len : Int))) * 1]? = some (.int .u32 x6) ∧
    ((0 : Int) ≤ (IntKind.i64.wrap (p3 + (p1.len : Int))) ∧ ((IntKind.i64.wrap (p3 + (p1.len : Int))) : Int) < (p0l : Nat)) ∧
    p0o + Int.toNat (IntKind.i64.wrap (p3 + (p1.len : Int))) * 1 + 1 ≤ List.length x2.o0 ∧
    R (.bool (((Int.fdiv (IntKind.u64.wrap ((IntKind.u64.wrap ((IntKind.u64.wrap x6) - x2.t9)) - x2.t10)) (2 ^ (min (Int.toNat 63) (IntKind.u64.bits)))) : Int) != 0)) (List.set x2.o0 (p0o + Int.toNat (IntKind.i64.wrap (p3 + (p1.len : Int))) * 1) (.int .u32 (IntKind.u32.wrap (IntKind.u64.wrap ((IntKind.u64.wrap ((IntKind.u64.wrap x6) - x2.t9)) - x2.t10))))) V1))) :
  CallD Try.prog 161 (fun b => (Value.slice (some ⟨b, p0o, none⟩) p0l p0c :: [p1.v, .int .u64 p2, .int .i64 p3] : List Value)) 142 p0w V R :=
  calls_of_vcD (Shp := Shp) (l := p0w) (off := p0o) (len := p0l) (cap := p0c) hmixed Try.func161 (c := Try.f161.body.getD .skip) (args := [p1.v, .int .u64 p2, .int .i64 p3]) (by kernel_rfl)
    (.seq (.reg [⟨8, 2, false⟩]) (.seq (.reg [⟨9, 2, false⟩, ⟨10, 2, false⟩]) (.seq (.seq (.reg [⟨16, 2, false⟩, ⟨17, 0, false⟩, ⟨18, 2, false⟩]) (.block (.loop Unit L_num_take_0 (fun _ => ()) (fun c x => { tm := spT 77 0 [(0, .osl 0 p0o p0l p0c), (1, .val (p1.v)), (2, .val (.int .u64 p2)), (3, .val (.int .i64 p3)), (9, .val (.int .u64 x.t9)), (10, .val (.int .u64 x.t10)), (16, .val (p1.v)), (17, .val (.int .i64 (p1.len : Int))), (18, .val (.int .i64 x.t18))], own := spO 77 0 [(0, ⟨142, .dyn x.o0⟩)] }) I_num_take_0 mu_num_take_0 (.seq (.reg [⟨19, 0, false⟩]) (.seq (.cond .leaf .leaf) (.seq (.block (.seq (.reg [⟨20, 2, false⟩, ⟨21, 7, false⟩, ⟨22, 5, false⟩, ⟨11, 2, false⟩, ⟨12, 2, false⟩]) (.seq (.reg [⟨23, 2, false⟩, ⟨24, 2, false⟩, ⟨25, 0, false⟩, ⟨26, 0, false⟩, ⟨27, 2, false⟩, ⟨28, 0, false⟩, ⟨13, 2, false⟩]) (.seq (.reg [⟨29, 2, false⟩, ⟨30, 0, false⟩, ⟨9, 2, false⟩]) (.seq (.reg [⟨31, 2, false⟩, ⟨32, 2, false⟩, ⟨33, 2, false⟩, ⟨34, 0, false⟩, ⟨35, 7, false⟩, ⟨0, 4, false⟩, ⟨37, 0, false⟩, ⟨38, 2, false⟩, ⟨39, 0, false⟩, ⟨40, 0, false⟩, ⟨41, 0, false⟩, ⟨42, 2, false⟩, ⟨43, 0, false⟩, ⟨14, 2, false⟩]) (.seq (.reg [⟨44, 2, false⟩, ⟨45, 2, false⟩, ⟨46, 2, false⟩, ⟨47, 0, false⟩, ⟨48, 2, false⟩, ⟨49, 0, false⟩, ⟨50, 7, false⟩, ⟨0, 6, false⟩]) (.reg [⟨51, 2, false⟩, ⟨52, 0, false⟩, ⟨10, 2, false⟩]))))))) (.reg [⟨53, 0, false⟩, ⟨18, 2, false⟩]))))))) (.seq (.reg [⟨54, 2, false⟩, ⟨55, 2, false⟩, ⟨56, 2, false⟩, ⟨57, 0, false⟩, ⟨58, 0, false⟩, ⟨59, 7, false⟩, ⟨0, 4, false⟩, ⟨61, 0, false⟩, ⟨62, 2, false⟩, ⟨63, 0, false⟩, ⟨64, 2, false⟩, ⟨65, 0, false⟩, ⟨15, 2, false⟩]) (.seq (.reg [⟨66, 2, false⟩, ⟨67, 2, false⟩, ⟨68, 2, false⟩, ⟨69, 0, false⟩, ⟨70, 0, false⟩, ⟨71, 2, false⟩, ⟨72, 0, false⟩, ⟨73, 7, false⟩, ⟨0, 6, false⟩]) (.seq (.reg [⟨74, 2, false⟩, ⟨75, 0, false⟩, ⟨76, 0, false⟩, ⟨8, 2, false⟩]) .leaf))))))
    (Eq.mpr (by kernel_rfl) (show (∃ x1 : L_num_take_0, ((SV.osl 0 p0o p0l p0c = SV.osl 0 p0o p0l p0c ∧ SV.val (p1.v) = SV.val (p1.v) ∧ SV.val (.int .u64 p2) = SV.val (.int .u64 p2) ∧ SV.val (.int .i64 p3) = SV.val (.int .i64 p3) ∧ SV.val (.int .u64 0) = SV.val (.int .u64 x1.t9) ∧ SV.val (.int .u64 0) = SV.val (.int .u64 x1.t10) ∧ SV.val (p1.v) = SV.val (p1.v) ∧ SV.val (.int .i64 (p1.len : Int)) = SV.val (.int .i64 (p1.len : Int)) ∧ SV.val (.int .i64 0) = SV.val (.int .i64 x1.t18) ∧ True) ∧ ((some (⟨142, .dyn p0w⟩) : Option OB) = some (⟨142, .dyn x1.o0⟩) ∧ True)) ∧ I_num_take_0 () x1 V) ∧
    (∀ (x2 : L_num_take_0) (V1 : View), View.le V V1 → I_num_take_0 () x2 V1 →
      ((decide ((x2.t18 : Int) < (p1.len : Int))) = true →
        ((0 : Int) ≤ x2.t18 ∧ (x2.t18 : Int) < (p1.len : Nat) ∧ Option.isSome p1.a = true) ∧
      ∃ x3 : Int, View.load V1 (Option.map (fun q => Addr.add q (Int.toNat x2.t18 * 1)) p1.a) = some (.int .u32 x3) ∧
      ((0 : Int) ≤ (IntKind.i64.wrap (x2.t18 + p3)) ∧ ((IntKind.i64.wrap (x2.t18 + p3)) : Int) < (p0l : Nat)) ∧
      ∃ x4 : Int, x2.o0[p0o + Int.toNat (IntKind.i64.wrap (x2.t18 + p3)) * 1]? = some (.int .u32 x4) ∧
      ((0 : Int) ≤ (IntKind.i64.wrap (x2.t18 + p3)) ∧ ((IntKind.i64.wrap (x2.t18 + p3)) : Int) < (p0l : Nat)) ∧
      p0o + Int.toNat (IntKind.i64.wrap (x2.t18 + p3)) * 1 + 1 ≤ List.length x2.o0 ∧
      ∃ x5 : L_num_take_0, ((SV.osl 0 p0o p0l p0c = SV.osl 0 p0o p0l p0c ∧ SV.val (p1.v) = SV.val (p1.v) ∧ SV.val (.int .u64 p2) = SV.val (.int .u64 p2) ∧ SV.val (.int .i64 p3) = SV.val (.int .i64 p3) ∧ SV.val (.int .u64 (Int.fdiv (IntKind.u64.wrap ((IntKind.u64.wrap (p2 * (IntKind.u64.wrap x3))) + x2.t9)) (2 ^ (min (Int.toNat 32) (IntKind.u64.bits))))) = SV.val (.int .u64 x5.t9) ∧ SV.val (.int .u64 (Int.fdiv (IntKind.u64.wrap ((IntKind.u64.wrap ((IntKind.u64.wrap x4) - (IntKind.u64.wrap (IntKind.u32.wrap (IntKind.u64.wrap ((IntKind.u64.wrap (p2 * (IntKind.u64.wrap x3))) + x2.t9)))))) - x2.t10)) (2 ^ (min (Int.toNat 63) (IntKind.u64.bits))))) = SV.val (.int .u64 x5.t10) ∧ SV.val (p1.v) = SV.val (p1.v) ∧ SV.val (.int .i64 (p1.len : Int)) = SV.val (.int .i64 (p1.len : Int)) ∧ SV.val (.int .i64 (IntKind.i64.wrap (x2.t18 + 1))) = SV.val (.int .i64 x5.t18) ∧ True) ∧ ((some (⟨142, .dyn (List.set x2.o0 (p0o + Int.toNat (IntKind.i64.wrap (x2.t18 + p3)) * 1) (.int .u32 (IntKind.u32.wrap (IntKind.u64.wrap ((IntKind.u64.wrap ((IntKind.u64.wrap x4) - (IntKind.u64.wrap (IntKind.u32.wrap (IntKind.u64.wrap ((IntKind.u64.wrap (p2 * (IntKind.u64.wrap x3))) + x2.t9)))))) - x2.t10)))))⟩) : Option OB) = some (⟨142, .dyn x5.o0⟩) ∧ True)) ∧ I_num_take_0 () x5 V1 ∧ mu_num_take_0 () x5 V1 < mu_num_take_0 () x2 V1) ∧
      ((decide ((x2.t18 : Int) < (p1.len : Int))) = false →
        ((0 : Int) ≤ (IntKind.i64.wrap (p3 + (p1.len : Int))) ∧ ((IntKind.i64.wrap (p3 + (p1.len : Int))) : Int) < (p0l : Nat)) ∧
    ∃ x6 : Int, x2.o0[p0o + Int.toNat (IntKind.i64.wrap (p3 + (p1.len : Int))) * 1]? = some (.int .u32 x6) ∧
    ((0 : Int) ≤ (IntKind.i64.wrap (p3 + (p1.len : Int))) ∧ ((IntKind.i64.wrap (p3 + (p1.len : Int))) : Int) < (p0l : Nat)) ∧
    p0o + Int.toNat (IntKind.i64.wrap (p3 + (p1.len : Int))) * 1 + 1 ≤ List.length x2.o0 ∧
    R (.bool (((Int.fdiv (IntKind.u64.wrap ((IntKind.u64.wrap ((IntKind.u64.wrap x6) - x2.t9)) - x2.t10)) (2 ^ (min (Int.toNat 63) (IntKind.u64.bits)))) : Int) != 0)) (List.set x2.o0 (p0o + Int.toNat (IntKind.i64.wrap (p3 + (p1.len : Int))) * 1) (.int .u32 (IntKind.u32.wrap (IntKind.u64.wrap ((IntKind.u64.wrap ((IntKind.u64.wrap x6) - x2.t9)) - x2.t10))))) V1)) from ⟨⟨(L_num_take_0.mk 0 0 0 p0w), ⟨⟨rfl, rfl, rfl, rfl, rfl, rfl, rfl, rfl, rfl, trivial⟩, ⟨rfl, trivial⟩⟩, h.1⟩, fun x2 V1 h8 h9 => ⟨fun h7 => ⟨((h.2 x2 V1 h8 h9).1 h7).1, (match ((h.2 x2 V1 h8 h9).1 h7).2 with | ⟨x3, h4, h3⟩ => ⟨x3, h4, ⟨h3.1, (match h3.2 with | ⟨x4, h2, h1⟩ => ⟨x4, h2, ⟨h1.1, ⟨h1.2.1, ⟨(L_num_take_0.mk (Int.fdiv (IntKind.u64.wrap ((IntKind.u64.wrap (p2 * (IntKind.u64.wrap x3))) + x2.t9)) (2 ^ (min (Int.toNat 32) (IntKind.u64.bits)))) (Int.fdiv (IntKind.u64.wrap ((IntKind.u64.wrap ((IntKind.u64.wrap x4) - (IntKind.u64.wrap (IntKind.u32.wrap (IntKind.u64.wrap ((IntKind.u64.wrap (p2 * (IntKind.u64.wrap x3))) + x2.t9)))))) - x2.t10)) (2 ^ (min (Int.toNat 63) (IntKind.u64.bits)))) (IntKind.i64.wrap (x2.t18 + 1)) (List.set x2.o0 (p0o + Int.toNat (IntKind.i64.wrap (x2.t18 + p3)) * 1) (.int .u32 (IntKind.u32.wrap (IntKind.u64.wrap ((IntKind.u64.wrap ((IntKind.u64.wrap x4) - (IntKind.u64.wrap (IntKind.u32.wrap (IntKind.u64.wrap ((IntKind.u64.wrap (p2 * (IntKind.u64.wrap x3))) + x2.t9)))))) - x2.t10)))))), ⟨⟨rfl, rfl, rfl, rfl, rfl, rfl, rfl, rfl, rfl, trivial⟩, ⟨rfl, trivial⟩⟩, h1.2.2.1, h1.2.2.2⟩⟩⟩⟩)⟩⟩)⟩, fun h7 => ⟨((h.2 x2 V1 h8 h9).2 h7).1, (match ((h.2 x2 V1 h8 h9).2 h7).2 with | ⟨x6, h6, h5⟩ => ⟨x6, h6, ⟨h5.1, ⟨h5.2.1, h5.2.2⟩⟩⟩)⟩⟩⟩))

end Go.Proofs.Ytcapadojlaojkaa

namespace Go.Proofs.Ytcapadojlaojkaa
open Go Go.Vc Go.Proofs

theorem bits_Div32_spec {V : View} {x y d : Nat} (hx : x < d) (hy : y < 4294967296) (hd : d < 4294967296) :
    CallV Try.prog n_bits_Div32 #[.int .u32 (x : Int), .int .u32 (y : Int), .int .u32 (d : Int)] V fun v V' =>
      v = .tuple #[.int .u32 (((x * 4294967296 + y) / d : Nat) : Int), .int .u32 (((x * 4294967296 + y) % d : Nat) : Int)] := by
  refine bits_Div32_vc _ _ _ V _ ⟨fun h => ⟨fun h2 => ?_, fun _ => ?_⟩, fun h => ?_⟩
  · have : (d : Int) ≤ x := by simpa using h2
    omega
  · have e : (2 : Int) ^ (min (Int.toNat 32) (IntKind.u64.bits)) = 4294967296 := by decide
    rw [u64w (n := (d : Int)) (by omega) (by omega), u64w (n := (x : Int)) (by omega) (by omega), u64w (n := (y : Int)) (by omega) (by omega), e, u64w (n := (x : Int) * 4294967296) (by omega) (by omega),
      show (x : Int) * 4294967296 = ((x * 4294967296 : Nat) : Int) by omega, or64 hy (by omega), u64w (n := ((x * 4294967296 + y : Nat) : Int)) (by omega) (by omega), ← Int.ofNat_tdiv, ← Int.ofNat_tmod]
    have h1 : (x * 4294967296 + y) / d < 4294967296 := by
      rw [Nat.div_lt_iff_lt_mul (by omega)]
      have := Nat.mul_le_mul_right 4294967296 (Nat.succ_le_of_lt hx)
      rw [Nat.succ_mul] at this
      omega
    have h2 : (x * 4294967296 + y) % d < d := Nat.mod_lt _ (by omega)
    generalize (x * 4294967296 + y) / d = q at *
    generalize (x * 4294967296 + y) % d = m at *
    rw [u64w (n := (q : Int)) (by omega) (by omega), u32w (n := (q : Int)) (by omega) (by omega), u32w (n := (m : Int)) (by omega) (by omega)]
    exact ⟨by omega, by omega, rfl⟩
  · have : (d : Int) = 0 := by simpa using h
    omega

theorem nat_short_spec {V : View} {s : Sl} {a d : Nat} (hs : NatAt V s a) (ha : wn a ≤ 2 ^ 45) (hd0 : 0 < d) (hd : d < 4294967296) :
    CallV Try.prog n_nat_short #[s.v, .int .u32 (d : Int)] V fun v V' => ∃ r : Sl, v = .tuple #[r.v, .int .u32 ((a % d : Nat) : Int)] ∧ NatAt V' r (a / d) := by
  have hsl := hs.len
  simp only [wn] at ha
  refine nat_short_vc s d V _
    (fun _ x _ => ∃ (j k rest : Nat) (l : List Nat), x = L_nat_short_0.mk (rest : Nat) ((j : Int) - 1) (wv l) ∧ j + k = s.len ∧ WB l ∧ l.length = s.len ∧ rest < d ∧ seg (dig a) j k = seg l j k * d + rest)
    (fun _ x _ => (x.t8 + 1).toNat) ⟨⟨by omega, by omega, by omega, by omega⟩, ⟨s.len, 0, 0, List.replicate s.len 0, ?_, by omega, WB.zeros _, by simp, hd0, by simp [seg_zero]⟩, ?_⟩
  · rw [i64w (by omega) (by omega), Int.toNat_natCast, wv_zeros]; rfl
  rintro _ V1 hle ⟨j, k, rest, l, rfl, hjk, hwb, hl, hr, hval⟩
  refine ⟨fun hp => ?_, fun hp b1 V3 hle3 hb1 => ?_⟩
  · simp only [ge_iff_le, decide_eq_true_eq] at hp
    obtain ⟨i, rfl⟩ : ∃ i, j = i + 1 := ⟨j - 1, by omega⟩
    simp only [show (((i + 1 : Nat) : Int) - 1) = (i : Nat) by omega, Int.toNat_natCast]
    have hw := (WB_dig a).getD i
    refine ⟨⟨by omega, by omega, hs.isSome (by omega)⟩, _, (hs.le hle).get (i := (i : Nat)) (by omega) (by omega), ?_⟩
    simp only [Int.toNat_natCast]
    refine (bits_Div32_spec hr hw hd).mono fun v V2 hle2 hv => ⟨_, _, hv, ⟨by omega, by omega⟩, by rw [wv_length]; omega, ?_⟩
    rw [i64w (by omega) (by omega), show 0 + i * 1 = i by omega, wv_set]
    have h1 : (rest * 4294967296 + (dig a).getD i 0) / d < 4294967296 := by
      rw [Nat.div_lt_iff_lt_mul (by omega)]
      have := Nat.mul_le_mul_right 4294967296 (Nat.succ_le_of_lt hr)
      rw [Nat.succ_mul] at this
      omega
    refine ⟨⟨i, k + 1, _, _, rfl, by omega, hwb.set h1, by simpa using hl, Nat.mod_lt _ hd0, ?_⟩, by show ((i : Int) - 1 + 1).toNat < ((i : Int) + 1).toNat; omega⟩
    rw [Nat.add_comm k 1, seg_split, seg_split _ i 1 k, hval, seg_set_out (j := i + 1) (by omega), seg_succ, seg_succ, seg_zero, seg_zero, Nat.add_zero, getD_set, if_pos ⟨rfl, by omega⟩]
    have := Nat.div_add_mod (rest * 4294967296 + (dig a).getD i 0) d
    generalize (rest * 4294967296 + (dig a).getD i 0) / d = q at *
    generalize (rest * 4294967296 + (dig a).getD i 0) % d = m at *
    simp only [Nat.pow_zero, Nat.mul_one, Nat.pow_one, Nat.zero_add, Nat.mul_add, Nat.add_mul]
    have e2 : 4294967296 * (seg l (i + 1) k * d) = 4294967296 * seg l (i + 1) k * d := by rw [Nat.mul_assoc]
    have e3 : q * d = d * q := Nat.mul_comm _ _
    omega
  · simp only [ge_iff_le, decide_eq_false_iff_not] at hp
    have hj : j = 0 := by omega
    subst hj
    have hk : k = s.len := by omega
    subst hk
    have hw : Words V3 (Sl.mk (some (Addr.mk b1 0 none)) (Int.toNat (s.len : Int)) (Int.toNat (s.len : Int))) l := Words.of_block hb1 (by omega) (Nat.le_refl _) hwb
    rw [seg_all (by omega), seg_all (by omega), wval_dig] at hval
    have e1 : a / d = wval l := by rw [hval, Nat.mul_comm, Nat.mul_add_div hd0, Nat.div_eq_of_lt hr]; omega
    have e2 : a % d = rest := by rw [hval, Nat.mul_comm, Nat.mul_add_mod, Nat.mod_eq_of_lt hr]
    refine (num_trim_spec hw (by omega)).mono fun v V6 _ ⟨r, hv, hr⟩ => ⟨r, hv, r, ?_, ?_⟩
    · rw [e2]
    · rw [e1]; exact hr

theorem len8 : ∀ n, n < 256 → strAt (ByteArray.mk #[0, 1, 2, 2, 3, 3, 3, 3, 4, 4, 4, 4, 4, 4, 4, 4, 5, 5, 5, 5, 5, 5, 5, 5, 5, 5, 5, 5, 5, 5, 5, 5, 6, 6, 6, 6, 6, 6, 6, 6, 6, 6, 6, 6, 6, 6, 6, 6, 6, 6, 6, 6, 6, 6, 6, 6, 6, 6, 6, 6, 6, 6, 6, 6, 7, 7, 7, 7, 7, 7, 7, 7, 7, 7, 7, 7, 7, 7, 7, 7, 7, 7, 7, 7, 7, 7, 7, 7, 7, 7, 7, 7, 7, 7, 7, 7, 7, 7, 7, 7, 7, 7, 7, 7, 7, 7, 7, 7, 7, 7, 7, 7, 7, 7, 7, 7, 7, 7, 7, 7, 7, 7, 7, 7, 7, 7, 7, 7, 8, 8, 8, 8, 8, 8, 8, 8, 8, 8, 8, 8, 8, 8, 8, 8, 8, 8, 8, 8, 8, 8, 8, 8, 8, 8, 8, 8, 8, 8, 8, 8, 8, 8, 8, 8, 8, 8, 8, 8, 8, 8, 8, 8, 8, 8, 8, 8, 8, 8, 8, 8, 8, 8, 8, 8, 8, 8, 8, 8, 8, 8, 8, 8, 8, 8, 8, 8, 8, 8, 8, 8, 8, 8, 8, 8, 8, 8, 8, 8, 8, 8, 8, 8, 8, 8, 8, 8, 8, 8, 8, 8, 8, 8, 8, 8, 8, 8, 8, 8, 8, 8, 8, 8, 8, 8, 8, 8, 8, 8, 8, 8, 8, 8, 8, 8, 8, 8, 8, 8, 8, 8, 8, 8, 8, 8, 8, 8]) n = (bl n : Int) := by decide +kernel
theorem len8size : ByteArray.size (ByteArray.mk #[0, 1, 2, 2, 3, 3, 3, 3, 4, 4, 4, 4, 4, 4, 4, 4, 5, 5, 5, 5, 5, 5, 5, 5, 5, 5, 5, 5, 5, 5, 5, 5, 6, 6, 6, 6, 6, 6, 6, 6, 6, 6, 6, 6, 6, 6, 6, 6, 6, 6, 6, 6, 6, 6, 6, 6, 6, 6, 6, 6, 6, 6, 6, 6, 7, 7, 7, 7, 7, 7, 7, 7, 7, 7, 7, 7, 7, 7, 7, 7, 7, 7, 7, 7, 7, 7, 7, 7, 7, 7, 7, 7, 7, 7, 7, 7, 7, 7, 7, 7, 7, 7, 7, 7, 7, 7, 7, 7, 7, 7, 7, 7, 7, 7, 7, 7, 7, 7, 7, 7, 7, 7, 7, 7, 7, 7, 7, 7, 8, 8, 8, 8, 8, 8, 8, 8, 8, 8, 8, 8, 8, 8, 8, 8, 8, 8, 8, 8, 8, 8, 8, 8, 8, 8, 8, 8, 8, 8, 8, 8, 8, 8, 8, 8, 8, 8, 8, 8, 8, 8, 8, 8, 8, 8, 8, 8, 8, 8, 8, 8, 8, 8, 8, 8, 8, 8, 8, 8, 8, 8, 8, 8, 8, 8, 8, 8, 8, 8, 8, 8, 8, 8, 8, 8, 8, 8, 8, 8, 8, 8, 8, 8, 8, 8, 8, 8, 8, 8, 8, 8, 8, 8, 8, 8, 8, 8, 8, 8, 8, 8, 8, 8, 8, 8, 8, 8, 8, 8, 8, 8, 8, 8, 8, 8, 8, 8, 8, 8, 8, 8, 8, 8, 8, 8, 8, 8]) = 256 := by decide +kernel

theorem bits_Len32_spec {V : View} {x : Nat} (hx : x < 4294967296) :
    CallV Try.prog n_bits_Len32 #[.int .u32 (x : Int)] V fun v V' => v = .int .i64 (bl x : Nat) := by
  have e16 : (2 : Int) ^ (min (Int.toNat 16) (IntKind.u32.bits)) = 65536 := by decide
  have e8 : (2 : Int) ^ (min (Int.toNat 8) (IntKind.u32.bits)) = 256 := by decide
  have fin : ∀ (n k m : Nat), n < 256 → k ≤ 24 → bl x = bl n + k → (m : Int) = k → Value.int .i64 (IntKind.i64.wrap ((m : Int) + IntKind.i64.wrap (strAt (ByteArray.mk #[0, 1, 2, 2, 3, 3, 3, 3, 4, 4, 4, 4, 4, 4, 4, 4, 5, 5, 5, 5, 5, 5, 5, 5, 5, 5, 5, 5, 5, 5, 5, 5, 6, 6, 6, 6, 6, 6, 6, 6, 6, 6, 6, 6, 6, 6, 6, 6, 6, 6, 6, 6, 6, 6, 6, 6, 6, 6, 6, 6, 6, 6, 6, 6, 7, 7, 7, 7, 7, 7, 7, 7, 7, 7, 7, 7, 7, 7, 7, 7, 7, 7, 7, 7, 7, 7, 7, 7, 7, 7, 7, 7, 7, 7, 7, 7, 7, 7, 7, 7, 7, 7, 7, 7, 7, 7, 7, 7, 7, 7, 7, 7, 7, 7, 7, 7, 7, 7, 7, 7, 7, 7, 7, 7, 7, 7, 7, 7, 8, 8, 8, 8, 8, 8, 8, 8, 8, 8, 8, 8, 8, 8, 8, 8, 8, 8, 8, 8, 8, 8, 8, 8, 8, 8, 8, 8, 8, 8, 8, 8, 8, 8, 8, 8, 8, 8, 8, 8, 8, 8, 8, 8, 8, 8, 8, 8, 8, 8, 8, 8, 8, 8, 8, 8, 8, 8, 8, 8, 8, 8, 8, 8, 8, 8, 8, 8, 8, 8, 8, 8, 8, 8, 8, 8, 8, 8, 8, 8, 8, 8, 8, 8, 8, 8, 8, 8, 8, 8, 8, 8, 8, 8, 8, 8, 8, 8, 8, 8, 8, 8, 8, 8, 8, 8, 8, 8, 8, 8, 8, 8, 8, 8, 8, 8, 8, 8, 8, 8, 8, 8, 8, 8, 8, 8, 8, 8]) n))) = .int .i64 (bl x : Nat) := by
    intro n k m hn hk hb hm
    have h1 := lt_bl n
    have h2 : bl n ≤ 8 := by
      rcases Nat.eq_zero_or_pos n with h | h
      · subst h; simp [bl_zero]
      · have := bl_le (by omega : n ≠ 0)
        have := (Nat.pow_lt_pow_iff_right (a := 2) (n := bl n - 1) (m := 8) (by omega)).1 (by omega)
        omega
    rw [len8 n hn, i64w (n := (bl n : Int)) (by omega) (by omega), i64w (by omega) (by omega), hm, hb]
    congr 1; omega
  have w8 : ∀ n : Nat, n < 256 → IntKind.u8.wrap (n : Int) = n := by
    intro n hn
    rw [show IntKind.u8.wrap (n : Int) = (n : Int) % 256 from by simp [IntKind.wrap, IntKind.signed, IntKind.bits]]
    omega
  refine bits_Len32_vc _ V _ ?_
  rw [e16, e8, Int.fdiv_eq_ediv_of_nonneg _ (by omega), Int.fdiv_eq_ediv_of_nonneg _ (by omega), Int.fdiv_eq_ediv_of_nonneg _ (by omega), len8size]
  rw [show (x : Int) / 65536 / 256 = ((x / 16777216 : Nat) : Int) by omega, show (x : Int) / 65536 = ((x / 65536 : Nat) : Int) by omega, show (x : Int) / 256 = ((x / 256 : Nat) : Int) by omega]
  refine ⟨fun h1 => ⟨fun h2 => ?_, fun h2 => ?_⟩, fun h1 => ⟨fun h2 => ?_, fun h2 => ?_⟩⟩ <;> simp only [ge_iff_le, decide_eq_true_eq, decide_eq_false_iff_not] at h1 h2
  · rw [w8 _ (by omega), Int.toNat_natCast]
    refine ⟨⟨by omega, by omega⟩, fin _ 24 24 (by omega) (by omega) (bl_div 24 (by omega)) rfl⟩
  · rw [w8 _ (by omega), Int.toNat_natCast]
    refine ⟨⟨by omega, by omega⟩, fin _ 16 16 (by omega) (by omega) (bl_div 16 (by omega)) rfl⟩
  · rw [w8 _ (by omega), Int.toNat_natCast]
    refine ⟨⟨by omega, by omega⟩, fin _ 8 8 (by omega) (by omega) (bl_div 8 (by omega)) rfl⟩
  · rw [w8 _ (by omega), Int.toNat_natCast]
    refine ⟨⟨by omega, by omega⟩, fin _ 0 0 (by omega) (by omega) rfl rfl⟩

theorem bits_LeadingZeros32_spec {V : View} {x : Nat} (hx : x < 4294967296) :
    CallV Try.prog n_bits_LeadingZeros32 #[.int .u32 (x : Int)] V fun v V' => v = .int .i64 ((32 - bl x : Nat) : Int) := by
  refine bits_LeadingZeros32_vc _ V _ ((bits_Len32_spec hx).mono fun v V' _ hv => ⟨_, hv, ?_⟩)
  have h2 : bl x ≤ 32 := by
    rcases Nat.eq_zero_or_pos x with h | h
    · subst h; simp [bl_zero]
    · have := bl_le (by omega : x ≠ 0)
      have := (Nat.pow_lt_pow_iff_right (a := 2) (n := bl x - 1) (m := 32) (by omega)).1 (by omega)
      omega
  rw [i64w (by omega) (by omega)]
  congr 1; omega

theorem top_bounds {a : Nat} (h : a ≠ 0) : (dig a).getD (wn a - 1) 0 * 4294967296 ^ (wn a - 1) ≤ a ∧ a < ((dig a).getD (wn a - 1) 0 + 1) * 4294967296 ^ (wn a - 1) ∧ (dig a).getD (wn a - 1) 0 ≠ 0 := by
  have h0 : wn a ≠ 0 := fun e => h (wn_eq_zero.1 e)
  have h1 := wval_take_succ (dig a) (wn a - 1)
  rw [wval_take_all (by simp only [wn] at h0 ⊢; omega), wval_dig] at h1
  have h2 := wval_lt ((WB_dig a).take (wn a - 1))
  have h3 : ((dig a).take (wn a - 1)).length = wn a - 1 := by simp [wn]
  rw [h3] at h2
  refine ⟨by omega, by rw [Nat.succ_mul]; omega, ?_⟩
  have h4 : (dig a).getLast? = some ((dig a).getD (wn a - 1) 0) := by
    rw [List.getLast?_eq_getElem?]
    simp only [wn] at h0 ⊢
    simp only [List.getD]
    rw [List.getElem?_eq_getElem (by omega)]; rfl
  exact dig_last h4

theorem bl_wn {a : Nat} (h : a ≠ 0) : bl a = bl ((dig a).getD (wn a - 1) 0) + 32 * (wn a - 1) := by
  obtain ⟨h1, h2, h3⟩ := top_bounds h
  have e : (4294967296 : Nat) ^ (wn a - 1) = 2 ^ (32 * (wn a - 1)) := by rw [Nat.pow_mul]
  rw [e] at h1 h2
  exact bl_shift _ h3 h1 h2

end Go.Proofs.Ytcapadojlaojkaa

namespace Go.Proofs.Ytcapadojlaojkaa
open Go Go.Vc Go.Proofs

theorem pow_words (n : Nat) : 2 ^ n = 2 ^ (n % 32) * 4294967296 ^ (n / 32) := by
  have e : (4294967296 : Nat) = 2 ^ 32 := by decide
  rw [e, ← Nat.pow_mul, ← Nat.pow_add]
  congr 1; omega
theorem shp64 {r : Nat} (h : r ≤ 64) : (2 : Int) ^ (min r (IntKind.bits .u64)) = ((2 ^ r : Nat) : Int) := by
  have e : IntKind.bits .u64 = 64 := rfl
  rw [e, Nat.min_eq_left h]; simp

theorem nat_shl_spec {V : View} {s : Sl} {a n : Nat} (hs : NatAt V s a) (ha : wn a ≤ 2 ^ 44) (hn : n ≤ 2 ^ 44) :
    CallV Try.prog n_nat_shl #[s.v, .int .i64 (n : Int)] V fun v V' => ∃ r : Sl, v = r.v ∧ NatAt V' r (a * 2 ^ n) := by
  have hsl := hs.len
  have hs0 : s.len = 0 → a = 0 := fun h => wn_eq_zero.1 (by simp only [wn]; omega)
  simp only [wn] at ha
  obtain ⟨W, hW⟩ : ∃ W, W = n / 32 := ⟨_, rfl⟩
  obtain ⟨R, hR⟩ : ∃ R, R = 2 ^ (n % 32) := ⟨_, rfl⟩
  have hR1 : R ≤ 2147483648 := by rw [hR]; exact Nat.pow_le_pow_right (by omega) (show n % 32 ≤ 31 by omega)
  obtain ⟨Q, hQ⟩ : ∃ Q, R * Q = 4294967296 := ⟨2 ^ (32 - n % 32), by rw [hR, ← Nat.pow_add, show n % 32 + (32 - n % 32) = 32 by omega]⟩
  refine nat_shl_vc s n V _ (fun _ _ _ => True)
    (fun _ x _ => ∃ (i : Nat) (l : List Nat), x = L_nat_shl_1.mk (i : Nat) (wv l) ∧ i ≤ s.len ∧ WB l ∧ l.length = s.len + W + 1 ∧ seg l 0 (i + W + 1) = wval ((dig a).take i) * R * 4294967296 ^ W ∧ l.getD (i + W) 0 < R)
    (fun _ x _ => (s.len - x.t32).toNat)
    ⟨⟨fun h => ⟨fun _ => ⟨s, rfl, by have h : (s.len : Int) = 0 := (by simpa using h); have := hs0 (by omega); subst this; simpa using hs⟩, fun h => by cases h⟩,
      fun _ => ⟨fun h => ⟨s, rfl, by have h : n = 0 := (by simpa using h); subst h; simpa using hs⟩, fun _ => trivial⟩⟩, ?_⟩
  rintro _ V1 hle1 _
  rw [td32, tm32, ← hW, i64w (n := (W : Int)) (by omega) (by omega), i64w (n := (s.len : Int) + W) (by omega) (by omega), i64w (n := (s.len : Int) + W + 1) (by omega) (by omega),
    u64w (n := ((n % 32 : Nat) : Int)) (by omega) (by omega), Int.toNat_natCast, shp64 (show n % 32 ≤ 64 by omega), ← hR]
  have hN : Int.toNat ((s.len : Int) + W + 1) = s.len + W + 1 := by omega
  rw [hN]
  refine ⟨⟨by omega, by omega, by omega, by omega⟩, ⟨0, List.replicate (s.len + W + 1) 0, ?_, by omega, WB.zeros _, by simp, ?_, ?_⟩, ?_⟩
  · rw [wv_zeros]; rfl
  · rw [seg_rep]; simp [wval]
  · have : (List.replicate (s.len + W + 1) 0).getD (0 + W) 0 = 0 := by simp only [List.getD, List.getElem?_replicate]; split <;> rfl
    rw [this, hR]; exact Nat.two_pow_pos _
  rintro _ V2 hle2 ⟨i, l, rfl, hi, hwb, hl, hval, hlt⟩
  refine ⟨fun hp => ?_, fun hp b1 V4 hle4 hb1 => ?_⟩
  · simp only [decide_eq_true_eq] at hp
    have hai := (WB_dig a).getD i
    have hW2 := hwb.getD (i + W)
    simp only [Int.toNat_natCast]
    rw [i64w (n := (i : Int) + W) (by omega) (by omega), i64w (n := (i : Int) + W + 1) (by omega) (by omega), i64w (n := (i : Int) + 1) (by omega) (by omega)]
    have e1 : Int.toNat ((i : Int) + W) = i + W := by omega
    have e2 : Int.toNat ((i : Int) + W + 1) = i + W + 1 := by omega
    rw [e1, e2, show 0 + (i + W) * 1 = i + W by omega, show 0 + (i + W + 1) * 1 = i + W + 1 by omega]
    refine ⟨⟨by omega, hp, hs.isSome (by omega)⟩, _, (hs.le (View.le_trans hle1 hle2)).get (i := (i : Nat)) (by omega) hp, by omega, ⟨by omega, by omega⟩, ((l.getD (i + W) 0 : Nat) : Int), wv_get (by omega), ⟨by omega, by omega⟩, by rw [wv_length]; omega, ⟨by omega, by omega⟩, by simp only [List.length_set, wv_length]; omega, ?_⟩
    simp only [Int.toNat_natCast]
    generalize hA : (dig a).getD i 0 = A at *
    have hm : A * R ≤ 4294967295 * 2147483648 := Nat.mul_le_mul (by omega) hR1
    rw [u64w (n := (A : Int)) (by omega) (by omega), ← Int.natCast_mul, u64w (n := ((A * R : Nat) : Int)) (by omega) (by omega)]
    have e3 : (2 : Int) ^ (min (Int.toNat 32) (IntKind.u64.bits)) = 4294967296 := by decide
    rw [e3, Int.fdiv_eq_ediv_of_nonneg _ (by omega)]
    have e4 : IntKind.u32.wrap (((A * R : Nat) : Int) / 4294967296) = ((A * R / 4294967296 : Nat) : Int) := by rw [u32w (by omega) (by omega)]; omega
    have e5 : IntKind.u32.wrap ((A * R : Nat) : Int) = ((A * R % 4294967296 : Nat) : Int) := by rw [u32m]; omega
    have e6 : A * R % 4294967296 = (A % Q) * R := by
      rw [← hQ, Nat.mul_comm A R, Nat.mul_mod_mul_left, Nat.mul_comm]
    have hhi : A * R / 4294967296 < R := by
      rw [Nat.div_lt_iff_lt_mul (by omega), Nat.mul_comm]
      exact Nat.mul_lt_mul_of_pos_left (by omega) (by rw [hR]; exact Nat.two_pow_pos _)
    have hlo : l.getD (i + W) 0 + A * R % 4294967296 < 4294967296 := by
      rw [e6]
      have h0 : 0 < Q := by rcases Nat.eq_zero_or_pos Q with h | h; · subst h; simp at hQ
                            · exact h
      have h1 : A % Q + 1 ≤ Q := Nat.mod_lt _ h0
      have h2 := Nat.mul_le_mul_right R h1
      rw [Nat.succ_mul, Nat.mul_comm Q R, hQ] at h2
      omega
    rw [e4, e5, or32v hW2 (Nat.mod_lt _ (by omega)), e6]
    have hor : (l.getD (i + W) 0 ||| A % Q * R) = l.getD (i + W) 0 + A % Q * R := by
      rw [hR] at hlt ⊢; exact orDisj hlt
    rw [hor, ← e6, u32w (by omega) (by omega), wv_set, wv_set]
    refine ⟨⟨i + 1, (l.set (i + W) (l.getD (i + W) 0 + A * R % 4294967296)).set (i + W + 1) (A * R / 4294967296), rfl, by omega, (hwb.set (by omega)).set (by omega), by simpa using hl, ?_, ?_⟩, by show ((s.len : Int) - ((i : Int) + 1)).toNat < ((s.len : Int) - i).toNat; omega⟩
    · rw [show i + 1 + W + 1 = (i + W + 1) + 1 by omega, seg_set_last (by omega) (by simp; omega)]
      have h1 := seg_set (l := l) (p := i + W) (d := l.getD (i + W) 0 + A * R % 4294967296) (j := 0) (k := i + W + 1) (by omega) (by omega) (by omega)
      rw [Nat.sub_zero, hval] at h1
      rw [wval_take_succ, hA, Nat.pow_succ]
      have h2 : A * R % 4294967296 + A * R / 4294967296 * 4294967296 = A * R := by omega
      have h3 := congrArg (· * 4294967296 ^ (i + W)) h2
      simp only [Nat.add_mul] at h1 h3 ⊢
      have h4 : A * 4294967296 ^ i * R * 4294967296 ^ W = A * R * 4294967296 ^ (i + W) := by rw [Nat.pow_add]; grind
      have h5 : ∀ q, q * (4294967296 ^ (i + W) * 4294967296) = q * 4294967296 * 4294967296 ^ (i + W) := by intro q; grind
      rw [h4, h5]
      omega
    · rw [getD_set, if_pos ⟨by omega, by simp; omega⟩]; exact hhi
  · simp only [decide_eq_false_iff_not] at hp
    have hi' : i = s.len := by omega
    subst hi'
    rw [seg_all (by omega), wval_take_all (l := dig a) (by omega), wval_dig] at hval
    have hw : Words V4 (Sl.mk (some (Addr.mk b1 0 none)) (s.len + W + 1) (s.len + W + 1)) l := Words.of_block hb1 (by omega) (Nat.le_refl _) hwb
    refine (num_trim_spec hw (by omega)).mono fun v V6 _ ⟨r, hv, hr⟩ => ⟨r, hv, r, rfl, ?_⟩
    rw [hval, Nat.mul_assoc, hR, hW, ← pow_words] at hr; exact hr

theorem dig_div_mod (a i : Nat) : a / 4294967296 ^ i % (4294967296 * 4294967296) = (dig a).getD i 0 + 4294967296 * (dig a).getD (i + 1) 0 := by
  rw [Nat.mod_mul, dig_getD, dig_getD, Nat.pow_succ, Nat.div_div_eq_div_mul]

theorem shr_word {a W i R Q : Nat} (hQ : R * Q = 4294967296) (hR : 0 < R) :
    ((dig a).getD (W + i) 0 + 4294967296 * (dig a).getD (W + i + 1) 0) / R % 4294967296 = (a / (4294967296 ^ W * R)) / 4294967296 ^ i % 4294967296 := by
  have h0 : 4294967296 * 4294967296 = R * (4294967296 * Q) := by rw [← Nat.mul_assoc, Nat.mul_comm R, Nat.mul_assoc, hQ]
  rw [← dig_div_mod, h0, Nat.mod_mul_right_div_self, Nat.mod_mul_right_mod]
  rw [Nat.div_div_eq_div_mul, Nat.div_div_eq_div_mul, Nat.pow_add]
  congr 2
  grind

theorem nat_shr_spec {V : View} {s : Sl} {a n : Nat} (hs : NatAt V s a) (ha : wn a ≤ 2 ^ 44) (hn : n ≤ 2 ^ 44) :
    CallV Try.prog n_nat_shr #[s.v, .int .i64 (n : Int)] V fun v V' => ∃ r : Sl, v = r.v ∧ NatAt V' r (a / 2 ^ n) := by
  have hsl := hs.len
  have hwn : wn a = s.len := by simp only [wn]; exact hsl.symm
  have haw := lt_wn a
  rw [hwn] at ha haw
  obtain ⟨W, hW⟩ : ∃ W, W = n / 32 := ⟨_, rfl⟩
  obtain ⟨R, hR⟩ : ∃ R, R = 2 ^ (n % 32) := ⟨_, rfl⟩
  have hR0 : 0 < R := by rw [hR]; exact Nat.two_pow_pos _
  obtain ⟨Q, hQ⟩ : ∃ Q, R * Q = 4294967296 := ⟨2 ^ (32 - n % 32), by rw [hR, ← Nat.pow_add, show n % 32 + (32 - n % 32) = 32 by omega]⟩
  have hpow : 2 ^ n = 4294967296 ^ W * R := by rw [hR, hW, Nat.mul_comm, ← pow_words]
  refine nat_shr_vc s n V _
    (fun _ x _ => ∃ (i : Nat) (l : List Nat), x = L_nat_shr_0.mk (i : Nat) (wv l) ∧ i ≤ s.len - W ∧ WB l ∧ l.length = s.len - W ∧ seg l 0 i = a / 2 ^ n % 4294967296 ^ i)
    (fun _ x _ => (s.len - x.t26).toNat) ?_
  rw [td32, tm32, ← hW, i64w (n := (W : Int)) (by omega) (by omega)]
  refine ⟨fun h => ⟨_, rfl, ?_⟩, fun h => ?_⟩
  · simp only [ge_iff_le, decide_eq_true_eq] at h
    have : a / 2 ^ n = 0 := by
      refine Nat.div_eq_of_lt (Nat.lt_of_lt_of_le haw ?_)
      rw [hpow]
      have h1 : 4294967296 ^ s.len ≤ 4294967296 ^ W := Nat.pow_le_pow_right (by omega) (by omega)
      have := Nat.mul_le_mul_left (4294967296 ^ W) hR0
      omega
    rw [this]; exact NatAt.zero V
  simp only [ge_iff_le, decide_eq_false_iff_not] at h
  rw [i64w (n := (s.len : Int) - W) (by omega) (by omega), u64w (n := ((n % 32 : Nat) : Int)) (by omega) (by omega), Int.toNat_natCast, shp64 (show n % 32 ≤ 64 by omega), ← hR]
  have hN : Int.toNat ((s.len : Int) - W) = s.len - W := by omega
  rw [hN]
  refine ⟨⟨by omega, by omega, by omega, by omega⟩, ⟨0, List.replicate (s.len - W) 0, ?_, by omega, WB.zeros _, by simp, ?_⟩, ?_⟩
  · rw [wv_zeros]; rfl
  · simp [seg_zero, Nat.mod_one]
  rintro _ V2 hle2 ⟨i, l, rfl, hi, hwb, hl, hval⟩
  refine ⟨fun hp => ?_, fun hp b1 V4 hle4 hb1 => ?_⟩
  · simp only [decide_eq_true_eq] at hp
    simp only [Int.toNat_natCast]
    rw [i64w (n := (i : Int) + W) (by omega) (by omega), i64w (n := (i : Int) + W + 1) (by omega) (by omega), i64w (n := (i : Int) + 1) (by omega) (by omega)]
    have w1 := (WB_dig a).getD (W + i)
    have w2 := (WB_dig a).getD (W + i + 1)
    have e1 : Int.toNat ((i : Int) + W) = W + i := by omega
    have e2 : Int.toNat ((i : Int) + W + 1) = W + i + 1 := by omega
    have e3 : (2 : Int) ^ (min (Int.toNat 32) (IntKind.u64.bits)) = 4294967296 := by decide
    have word := shr_word (a := a) (W := W) (i := i) hQ hR0
    rw [← hpow] at word
    have step : ∀ z : Nat, z = (dig a).getD (W + i) 0 + 4294967296 * (dig a).getD (W + i + 1) 0 →
        (∃ (i' : Nat) (l' : List Nat), L_nat_shr_0.mk ((i : Int) + 1) ((wv l).set (0 + i * 1) (.int .u32 (IntKind.u32.wrap (Int.fdiv (z : Int) (R : Nat))))) = L_nat_shr_0.mk (i' : Nat) (wv l') ∧ i' ≤ s.len - W ∧ WB l' ∧ l'.length = s.len - W ∧ seg l' 0 i' = a / 2 ^ n % 4294967296 ^ i') := by
      intro z hz
      have ez : IntKind.u32.wrap (Int.fdiv (z : Int) (R : Nat)) = ((a / 2 ^ n / 4294967296 ^ i % 4294967296 : Nat) : Int) := by
        rw [Int.fdiv_eq_ediv_of_nonneg _ (by omega), u32m, ← word, ← hz]; rfl
      rw [ez, show 0 + i * 1 = i by omega, wv_set]
      refine ⟨i + 1, _, rfl, by omega, hwb.set (Nat.mod_lt _ (by omega)), by simpa using hl, ?_⟩
      rw [seg_set_last (by omega) (by omega), hval, Nat.pow_succ, Nat.mod_mul, Nat.mul_comm (4294967296 ^ i)]
    have hme : ((s.len : Int) - ((i : Int) + 1)).toNat < ((s.len : Int) - i).toNat := by omega
    have g1 := (hs.le hle2).get (i := (i : Int) + W) (by omega) (by omega)
    rw [e1] at g1 ⊢
    refine ⟨⟨by omega, by omega, hs.isSome (by omega)⟩, _, g1, fun hq => ?_, fun hq => ?_⟩
    · simp only [decide_eq_true_eq] at hq
      have g2 := (hs.le hle2).get (i := (i : Int) + W + 1) (by omega) (by omega)
      rw [e2] at g2 ⊢
      refine ⟨⟨by omega, by omega, hs.isSome (by omega)⟩, _, g2, by omega, ⟨by omega, by omega⟩, by rw [wv_length]; omega, ?_⟩
      rw [e3, u64w (n := (((dig a).getD (W + i) 0 : Nat) : Int)) (by omega) (by omega), u64w (n := (((dig a).getD (W + i + 1) 0 : Nat) : Int)) (by omega) (by omega), u64w (n := (((dig a).getD (W + i + 1) 0 : Nat) : Int) * 4294967296) (by omega) (by omega),
        show (((dig a).getD (W + i + 1) 0 : Nat) : Int) * 4294967296 = (((dig a).getD (W + i + 1) 0 * 4294967296 : Nat) : Int) by omega, or64' w1 w2, u64w (by omega) (by omega)]
      exact ⟨step _ (by omega), hme⟩
    · simp only [decide_eq_false_iff_not] at hq
      refine ⟨by omega, ⟨by omega, by omega⟩, by rw [wv_length]; omega, ?_⟩
      rw [u64w (n := (((dig a).getD (W + i) 0 : Nat) : Int)) (by omega) (by omega)]
      have h0 : (dig a).getD (W + i + 1) 0 = 0 := by simp only [List.getD]; rw [List.getElem?_eq_none (by omega)]; rfl
      exact ⟨step _ (by omega), hme⟩
  · simp only [decide_eq_false_iff_not] at hp
    have hi' : i = s.len - W := by omega
    subst hi'
    have hw : Words V4 (Sl.mk (some (Addr.mk b1 0 none)) (s.len - W) (s.len - W)) l := Words.of_block hb1 (by omega) (Nat.le_refl _) hwb
    refine (num_trim_spec hw (by omega)).mono fun v V6 _ ⟨r, hv, hr⟩ => ⟨r, hv, r, rfl, ?_⟩
    rw [seg_all (by omega)] at hval
    have hlt : a / 2 ^ n < 4294967296 ^ (s.len - W) := by
      rw [hpow, ← Nat.div_div_eq_div_mul]
      refine Nat.lt_of_le_of_lt (Nat.div_le_self _ _) ?_
      rw [Nat.div_lt_iff_lt_mul (Nat.pow_pos (by omega)), ← Nat.pow_add, show s.len - W + W = s.len by omega]
      exact haw
    rw [hval, Nat.mod_eq_of_lt hlt] at hr; exact hr

end Go.Proofs.Ytcapadojlaojkaa

namespace Go.Proofs.Ytcapadojlaojkaa
open Go Go.Vc Go.Proofs

theorem sh32_64 : (2 : Int) ^ (min (Int.toNat 32) (IntKind.u64.bits)) = 4294967296 := by decide
theorem sh63_64 : (2 : Int) ^ (min (Int.toNat 63) (IntKind.u64.bits)) = 9223372036854775808 := by decide

/-- One word less another one and a borrow. -/
theorem borrow_word {u p b : Nat} (hu : u < 4294967296) (hp : p < 4294967296) (hb : b ≤ 1) : ∃ low br : Nat, low < 4294967296 ∧ br ≤ 1 ∧ low + p + b = u + br * 4294967296 ∧
    IntKind.u32.wrap (IntKind.u64.wrap (IntKind.u64.wrap ((u : Int) - p) - b)) = (low : Nat) ∧ Int.fdiv (IntKind.u64.wrap (IntKind.u64.wrap ((u : Int) - p) - b)) 9223372036854775808 = (br : Nat) := by
  refine ⟨(u + 8589934592 - p - b) % 4294967296, if u < p + b then 1 else 0, by omega, by split <;> omega, by split <;> omega, ?_, ?_⟩
  · rw [u32m, u64m, u64m]; omega
  · rw [u64m, u64m, Int.fdiv_eq_ediv_of_nonneg _ (by omega)]; split <;> omega

theorem num_take_spec {V : View} {sv : Sl} {vN q j m : Nat} {l : List Nat} (hv : NatAt V sv vN) (hq : q < 4294967296) (hl : l.length = m) (hwb : WB l) (hj : j + sv.len < m) (hm : m ≤ 2 ^ 46) :
    CallD Try.prog n_num_take (fun b => (Value.slice (some ⟨b, 0, none⟩) m m :: [sv.v, Value.int .u64 (q : Nat), Value.int .i64 (j : Nat)] : List Value)) T_u32 (wv l) V fun v l2 V' =>
      ∃ neg l', v = .bool neg ∧ l2 = wv l' ∧ WB l' ∧ l'.length = m ∧ (∀ i, i < j ∨ j + sv.len < i → l'.getD i 0 = l.getD i 0) ∧
        seg l' j (sv.len + 1) + q * vN = seg l j (sv.len + 1) + (if neg then 4294967296 ^ (sv.len + 1) else 0) := by
  have hvl := hv.len
  refine num_take_vc 0 m m (wv l) sv q j V _
    (fun _ x _ => ∃ (i c b : Nat) (l' : List Nat), x = L_num_take_0.mk (c : Nat) (b : Nat) (i : Nat) (wv l') ∧ i ≤ sv.len ∧ WB l' ∧ l'.length = m ∧ c < 4294967296 ∧ b ≤ 1 ∧
      (∀ p, p < j ∨ j + i ≤ p → l'.getD p 0 = l.getD p 0) ∧ seg l' j i + q * wval ((dig vN).take i) = seg l j i + (c + b) * 4294967296 ^ i)
    (fun _ x _ => (sv.len - x.t18).toNat) ⟨⟨0, 0, 0, l, rfl, by omega, hwb, hl, by omega, by omega, fun _ _ => rfl, by simp [seg_zero, wval]⟩, ?_⟩
  rintro _ V1 hle ⟨i, c, b, l', rfl, hi, hwb', hl', hc, hb, hout, hval⟩
  simp only [sh32_64, sh63_64]
  refine ⟨fun hp => ?_, fun hp => ?_⟩
  · simp only [decide_eq_true_eq] at hp
    rw [i64w (n := (i : Int) + j) (by omega) (by omega), i64w (n := (i : Int) + 1) (by omega) (by omega), show 0 + Int.toNat ((i : Int) + j) * 1 = j + i by omega]
    have hvi := (WB_dig vN).getD i
    have hui := hwb'.getD (j + i)
    refine ⟨⟨by omega, hp, hv.isSome (by omega)⟩, _, (hv.le hle).get (i := (i : Nat)) (by omega) hp, ⟨by omega, by omega⟩, _, wv_get (by omega), ⟨by omega, by omega⟩, by rw [wv_length]; omega, ?_⟩
    simp only [Int.toNat_natCast]
    generalize hA : (dig vN).getD i 0 = A at *
    generalize hU : l'.getD (j + i) 0 = U at *
    have hm' := mul_word hq hvi
    rw [u64w (n := (A : Int)) (by omega) (by omega), ← Int.natCast_mul, u64w (n := ((q * A : Nat) : Int)) (by omega) (by omega), u64w (n := ((q * A : Nat) : Int) + c) (by omega) (by omega)]
    obtain ⟨P, hP⟩ : ∃ P, P = q * A + c := ⟨_, rfl⟩
    rw [show ((q * A : Nat) : Int) + c = (P : Nat) by omega, show IntKind.u32.wrap (P : Int) = ((P % 4294967296 : Nat) : Int) by rw [u32m]; omega,
      u64w (n := ((P % 4294967296 : Nat) : Int)) (by omega) (by omega), u64w (n := (U : Int)) (by omega) (by omega), Int.fdiv_eq_ediv_of_nonneg (P : Int) (by omega),
      show (P : Int) / 4294967296 = ((P / 4294967296 : Nat) : Int) by omega]
    obtain ⟨low, br, h1, h2, h3, h4, h5⟩ := borrow_word hui (Nat.mod_lt P (by omega : 0 < 4294967296)) hb
    rw [h4, h5, wv_set]
    refine ⟨⟨i + 1, P / 4294967296, br, l'.set (j + i) low, rfl, by omega, hwb'.set h1, by simpa using hl', by omega, h2, ?_, ?_⟩, by show ((sv.len : Int) - ((i : Int) + 1)).toNat < ((sv.len : Int) - i).toNat; omega⟩
    · intro p hp
      rw [getD_set, if_neg (by omega)]; exact hout p (by omega)
    · have hu0 : l.getD (j + i) 0 = U := by rw [← hU]; exact (hout (j + i) (by omega)).symm
      rw [seg_set_last rfl (by omega), seg_succ, wval_take_succ, hA, hu0, Nat.pow_succ]
      have h6 : low + q * A + c + b = U + (P / 4294967296 + br) * 4294967296 := by
        have := Nat.div_add_mod P 4294967296
        omega
      have h7 := congrArg (· * 4294967296 ^ i) h6
      simp only [Nat.add_mul] at h7 hval ⊢
      have h8 : q * (wval (List.take i (dig vN)) + A * 4294967296 ^ i) = q * wval (List.take i (dig vN)) + q * A * 4294967296 ^ i := by rw [Nat.mul_add, Nat.mul_assoc]
      have h9 : ∀ z, z * (4294967296 ^ i * 4294967296) = z * 4294967296 * 4294967296 ^ i := by intro z; grind
      rw [h8, h9, h9]
      omega
  · simp only [decide_eq_false_iff_not] at hp
    have hi' : i = sv.len := by omega
    subst hi'
    rw [i64w (n := (j : Int) + sv.len) (by omega) (by omega), show 0 + Int.toNat ((j : Int) + sv.len) * 1 = j + sv.len by omega]
    have hui := hwb'.getD (j + sv.len)
    refine ⟨⟨by omega, by omega⟩, _, wv_get (by omega), ⟨by omega, by omega⟩, by rw [wv_length]; omega, ?_⟩
    generalize hU : l'.getD (j + sv.len) 0 = U at *
    rw [u64w (n := (U : Int)) (by omega) (by omega)]
    obtain ⟨low, br, h1, h2, h3, h4, h5⟩ := borrow_word hui hc hb
    rw [h4, h5, wv_set]
    refine ⟨_, _, rfl, rfl, hwb'.set h1, by simpa using hl', ?_, ?_⟩
    · intro p hp
      rw [getD_set, if_neg (by omega)]; exact hout p (by omega)
    · have hu0 : l.getD (j + sv.len) 0 = U := by rw [← hU]; exact (hout (j + sv.len) (by omega)).symm
      rw [wval_take_all (l := dig vN) (by omega), wval_dig] at hval
      rw [seg_set_last rfl (by omega), seg_succ, hu0, Nat.pow_succ]
      have h7 := congrArg (· * 4294967296 ^ sv.len) h3
      simp only [Nat.add_mul] at h7 hval
      have hif : (if ((br : Nat) : Int) != 0 then 4294967296 ^ sv.len * 4294967296 else 0) = br * 4294967296 * 4294967296 ^ sv.len := by
        rcases Nat.eq_zero_or_pos br with h | h
        · subst h; simp
        · have : br = 1 := by omega
          subst this; simp [Nat.mul_comm]
      rw [hif]
      omega

end Go.Proofs.Ytcapadojlaojkaa

namespace Go.Vc
open Go

/-- What is known where one word of a quotient is guessed. -/
structure Guess (P vN v1 v2 u2 u1 u0 W : Nat) : Prop where
  h1 : v1 < 4294967296
  h2 : v2 < 4294967296
  pos : 0 < v1
  k2 : u2 ≤ v1
  k1 : u1 < 4294967296
  k0 : u0 < 4294967296
  vlo : (v1 * 4294967296 + v2) * P ≤ vN
  vhi : vN ≤ (v1 * 4294967296 + v2 + 1) * P
  wlo : ((u2 * 4294967296 + u1) * 4294967296 + u0) * P ≤ W
  whi : W < ((u2 * 4294967296 + u1) * 4294967296 + u0 + 1) * P
  lt : W < 4294967296 * vN

theorem Guess.big {P vN v1 v2 u2 u1 u0 W : Nat} (h : Guess P vN v1 v2 u2 u1 u0 W) {q : Nat} (hq : q * vN ≤ W) : q * (v1 * 4294967296 + v2) < (u2 * 4294967296 + u1) * 4294967296 + u0 + 1 := by
  rcases Nat.lt_or_ge (q * (v1 * 4294967296 + v2)) ((u2 * 4294967296 + u1) * 4294967296 + u0 + 1) with h1 | h1
  · exact h1
  · exfalso
    have h2 := Nat.mul_le_mul_right P h1
    have h3 := Nat.mul_le_mul_left q h.vlo
    rw [← Nat.mul_assoc] at h3
    have := h.whi
    omega
theorem Guess.init {P vN v1 v2 u2 u1 u0 W : Nat} (h : Guess P vN v1 v2 u2 u1 u0 W) : W / vN ≤ (u2 * 4294967296 + u1) / v1 := by
  rw [Nat.le_div_iff_mul_le h.pos]
  have h1 := h.big (Nat.div_mul_le_self W vN)
  generalize W / vN = q at *
  have hu0 := h.k0
  have e : q * (v1 * 4294967296 + v2) = q * v1 * 4294967296 + q * v2 := by rw [Nat.mul_add, Nat.mul_assoc]
  rw [e] at h1
  omega
theorem Guess.quo {P vN v1 v2 u2 u1 u0 W : Nat} (h : Guess P vN v1 v2 u2 u1 u0 W) : W / vN < 4294967296 := by
  have := h.lt
  rw [Nat.div_lt_iff_lt_mul]
  · exact this
  · rcases Nat.eq_zero_or_pos vN with h0 | h0
    · subst h0; omega
    · exact h0
theorem Guess.dec {P vN v1 v2 u2 u1 u0 W g r : Nat} (h : Guess P vN v1 v2 u2 u1 u0 W) (hg : g * v1 + r = u2 * 4294967296 + u1) (hc : r * 4294967296 + u0 < g * v2) : W / vN < g := by
  have h1 := h.big (Nat.div_mul_le_self W vN)
  generalize W / vN = q at *
  rcases Nat.lt_or_ge q g with h2 | h2
  · exact h2
  · exfalso
    have h3 := Nat.mul_le_mul_right (v1 * 4294967296 + v2) h2
    have e : g * (v1 * 4294967296 + v2) = g * v1 * 4294967296 + g * v2 := by rw [Nat.mul_add, Nat.mul_assoc]
    omega
theorem Guess.exit {P vN v1 v2 u2 u1 u0 W g r : Nat} (h : Guess P vN v1 v2 u2 u1 u0 W) (hg : g * v1 + r = u2 * 4294967296 + u1) (hB : g < 4294967296) (hc : g * v2 ≤ r * 4294967296 + u0) : (g - 1) * vN ≤ W := by
  have := h.pos
  exact guess_le h.vhi h.wlo hg hc (by omega)
theorem Guess.brk {P vN v1 v2 u2 u1 u0 W g r : Nat} (h : Guess P vN v1 v2 u2 u1 u0 W) (hg : g * v1 + r = u2 * 4294967296 + u1) (h0 : 0 < g) (hr : 4294967296 ≤ r + v1) : g - 1 < 4294967296 ∧ (g - 1 - 1) * vN ≤ W := by
  obtain ⟨g, rfl⟩ : ∃ k, g = k + 1 := ⟨g - 1, by omega⟩
  simp only [Nat.add_sub_cancel]
  have hg' : g * v1 + (r + v1) = u2 * 4294967296 + u1 := by rw [Nat.succ_mul] at hg; omega
  have hB : g < 4294967296 := by
    rcases Nat.lt_or_ge g 4294967296 with h1 | h1
    · exact h1
    · exfalso
      have h2 := Nat.mul_le_mul_right v1 h1
      have := h.k2
      have := h.k1
      omega
  refine ⟨hB, h.exit hg' hB ?_⟩
  have := Nat.mul_le_mul (Nat.le_of_lt hB) (Nat.le_of_lt h.h2)
  have h3 := Nat.mul_le_mul_right 4294967296 hr
  omega

/-- Above a word. -/
theorem seg_three (l : List Nat) (j k : Nat) : seg l j (k + 1 + 1 + 1) = seg l j k + ((l.getD (j + k + 2) 0 * 4294967296 + l.getD (j + k + 1) 0) * 4294967296 + l.getD (j + k) 0) * 4294967296 ^ k := by
  rw [seg_succ, seg_succ, seg_succ, Nat.pow_succ, Nat.pow_succ, Nat.pow_succ, show j + (k + 1 + 1) = j + k + 2 by omega, show j + (k + 1) = j + k + 1 by omega]
  grind
theorem seg_two (l : List Nat) (j k : Nat) : seg l j (k + 1 + 1) = seg l j k + (l.getD (j + k + 1) 0 * 4294967296 + l.getD (j + k) 0) * 4294967296 ^ k := by
  rw [seg_succ, seg_succ, Nat.pow_succ, show j + (k + 1) = j + k + 1 by omega]
  grind
theorem seg_dig (n : Nat) {k : Nat} (h : wn n ≤ k) : seg (dig n) 0 k = n := by rw [seg_all h, wval_dig]

theorem guess_of {n vN j : Nat} {u : List Nat} (hu : WB u) (hn : 2 ≤ n) (hv : wn vN = n) (hc : seg u (j + 1) n < vN) :
    Guess (4294967296 ^ (n - 2)) vN ((dig vN).getD (n - 1) 0) ((dig vN).getD (n - 2) 0) (u.getD (j + n) 0) (u.getD (j + n - 1) 0) (u.getD (j + n - 2) 0) (seg u j (n + 1)) := by
  obtain ⟨k, rfl⟩ : ∃ k, n = k + 2 := ⟨n - 2, by omega⟩
  have e1 : k + 2 - 1 = k + 1 := rfl
  have e2 : k + 2 - 2 = k := rfl
  have e3 : j + (k + 2) = j + k + 2 := rfl
  have e4 : j + k + 2 - 1 = j + k + 1 := rfl
  have e5 : j + k + 2 - 2 = j + k := rfl
  rw [e1, e2, e3, e4, e5]
  have hw := WB_dig vN
  have hvs := seg_dig vN (Nat.le_of_eq hv)
  rw [seg_two, Nat.zero_add] at hvs
  have b1 := seg_lt hw 0 k
  have b2 := seg_lt hu j k
  have hP : 0 < 4294967296 ^ k := Nat.pow_pos (by omega)
  have top := seg_succ u (j + 1) (k + 1)
  rw [show j + 1 + (k + 1) = j + k + 2 by omega] at top
  have hw1 : seg u j (k + 2 + 1) = u.getD j 0 + 4294967296 * seg u (j + 1) (k + 2) := by
    rw [show k + 2 + 1 = 1 + (k + 2) by omega, seg_split, seg_succ, seg_zero]; simp
  have b3 := hu.getD j
  refine ⟨hw.getD _, hw.getD _, ?_, ?_, hu.getD _, hu.getD _, by omega, by rw [Nat.succ_mul]; omega, ?_, ?_, by rw [hw1]; omega⟩
  · rcases Nat.eq_zero_or_pos ((dig vN).getD (k + 1) 0) with h0 | h0
    · exfalso
      have hl : wn vN = k + 2 := hv
      have h1 : vN ≠ 0 := by rintro rfl; rw [wn_zero] at hl; omega
      have h2 : (dig vN).getLast? = some ((dig vN).getD (k + 1) 0) := by
        rw [List.getLast?_eq_getElem?]
        simp only [wn] at hl
        simp only [List.getD]
        rw [hl, show k + 2 - 1 = k + 1 by omega, List.getElem?_eq_getElem (by omega)]; rfl
      exact dig_last h2 h0
    · exact h0
  · -- the top word
    rcases Nat.lt_or_ge ((dig vN).getD (k + 1) 0) (u.getD (j + k + 2) 0) with h0 | h0
    · exfalso
      have h1 := Nat.mul_le_mul_right (4294967296 ^ (k + 1)) (Nat.succ_le_of_lt h0)
      rw [Nat.succ_mul, Nat.pow_succ] at h1
      rw [show k + 1 + 1 = k + 2 by omega, Nat.pow_succ] at top
      have h2 := hw.getD k
      have h3 := Nat.mul_le_mul_right (4294967296 ^ k) (Nat.succ_le_of_lt h2)
      rw [Nat.succ_mul] at h3
      have e6 : ∀ z, z * (4294967296 ^ k * 4294967296) = z * 4294967296 * 4294967296 ^ k := by intro z; grind
      simp only [e6] at h1 top
      rw [Nat.add_mul] at hvs
      omega
    · exact h0
  · rw [show k + 2 + 1 = k + 1 + 1 + 1 by omega, seg_three]; omega
  · rw [show k + 2 + 1 = k + 1 + 1 + 1 by omega, seg_three, Nat.succ_mul]; omega

theorem setL_app {α : Type} (l : List α) (off : Nat) (vs : List α) (h : off + vs.length ≤ l.length) : setL l off vs = l.take off ++ vs ++ l.drop (off + vs.length) := by
  induction vs generalizing l off with
  | nil => simp [setL]
  | cons v vs ih =>
    simp only [List.length_cons] at h
    rw [setL, ih _ _ (by simp; omega)]
    apply List.ext_getElem?
    intro i
    simp only [List.getElem?_append, List.getElem?_take, List.getElem?_drop, List.getElem?_set, List.length_append, List.length_take, List.length_set, List.length_cons, List.getElem?_cons]
    have e1 : min (off + 1) l.length = off + 1 := by omega
    have e2 : min off l.length = off := by omega
    rw [e1, e2]
    by_cases c1 : i < off
    · have c2 : ¬ off = i := by omega
      simp [c1, c2, show i < off + 1 + vs.length by omega, show i < off + 1 by omega, show i < off + (vs.length + 1) by omega]
    · by_cases c2 : i = off
      · subst c2
        simp [show i < i + 1 + vs.length by omega, show i < l.length by omega]
      · have c3 : ¬ off = i := fun x => c2 x.symm
        have c4 : ¬ i < off + 1 := by omega
        have c5 : i - off ≠ 0 := by omega
        simp only [c1, c4, if_false, c3]
        by_cases c6 : i < off + 1 + vs.length
        · simp [c6, show i < off + (vs.length + 1) by omega, c5, show i - off - 1 = i - (off + 1) by omega]
        · simp only [c6, show ¬ i < off + (vs.length + 1) by omega, if_false]
          rw [if_neg (by omega)]
          congr 1; omega
theorem setL_wv (n : Nat) (d : List Nat) (h : d.length ≤ n) : setL (wv (List.replicate n 0)) 0 (wv d) = wv (d ++ List.replicate (n - d.length) 0) := by
  rw [setL_app _ _ _ (by simp [wv]; omega)]
  simp [wv]
theorem wval_pad (d : List Nat) (n : Nat) : wval (d ++ List.replicate n 0) = wval d := by rw [wval_append, wval_zeros]; simp

end Go.Vc

set_option maxRecDepth 100000
set_option maxHeartbeats 4000000
namespace Go.Proofs.Ytcapadojlaojkaa
open Go Go.Vc Go.Proofs

structure L_nat_div_0 where
  t13 : Int
  o55 : List Value
  o65 : List Value
structure C_nat_div_0 where
  t9 : Int
  t10 : Sl
structure L_nat_div_1 where
  t15 : Int
structure C_nat_div_1 where
  t9 : Int
  t10 : Sl
  t13 : Int
  o55 : List Value
  o65 : List Value
structure L_nat_div_2 where
  t15 : Int
  t16 : Int
structure C_nat_div_2 where
  t9 : Int
  t10 : Sl
  t13 : Int
  o55 : List Value
  o65 : List Value
structure L_nat_div_3 where
  t17 : Int
  t151 : Int
  o55 : List Value
  o65 : List Value
structure C_nat_div_3 where
  t9 : Int
  t10 : Sl
  t13 : Int
  t15 : Int
  t149 : Sl
  t150 : Int
/-- (waveport/num.nat).div -/
theorem nat_div_vc (p0 : Sl) (p1 : Sl) (V : View) (R : Value → View → Prop) (I_nat_div_0 : C_nat_div_0 → L_nat_div_0 → View → Prop) (mu_nat_div_0 : C_nat_div_0 → L_nat_div_0 → View → Nat) (I_nat_div_1 : C_nat_div_1 → L_nat_div_1 → View → Prop) (I_nat_div_2 : C_nat_div_2 → L_nat_div_2 → View → Prop) (mu_nat_div_2 : C_nat_div_2 → L_nat_div_2 → View → Nat) (I_nat_div_3 : C_nat_div_3 → L_nat_div_3 → View → Prop) (mu_nat_div_3 : C_nat_div_3 → L_nat_div_3 → View → Nat)
  (h :
    CallV Try.prog 145 #[p0.v, p1.v] V fun v V1 => ∃ r1 : Int, v = .int .i64 r1 ∧ -- (num.nat).cmp
    ((decide ((r1 : Int) < 0)) = true →
      R (.tuple #[(Sl.mk none 0 0).v, p0.v]) V1) ∧
    ((decide ((r1 : Int) < 0)) = false →
      ((((p1.len : Int) : Int) == 1) = true →
      ((0 : Int) ≤ 0 ∧ (0 : Int) < (p1.len : Nat) ∧ Option.isSome p1.a = true) ∧
      ∃ x1 : Int, View.load V1 (Option.map (fun q => Addr.add q (Int.toNat 0 * 1)) p1.a) = some (.int .u32 x1) ∧
      CallV Try.prog 158 #[p0.v, .int .u32 x1] V1 fun v V2 => ∃ (r2 : Sl) (r3 : Int), v = .tuple #[r2.v, .int .u32 r3] ∧ -- (num.nat).short
      CallV Try.prog 130 #[.int .u64 (IntKind.u64.wrap r3)] V2 fun v V3 => ∃ r4 : Sl, v = r4.v ∧ -- num.natOf
      R (.tuple #[r2.v, r4.v]) V3) ∧
    ((((p1.len : Int) : Int) == 1) = false →
      ((0 : Int) ≤ (IntKind.i64.wrap ((p1.len : Int) - 1)) ∧ ((IntKind.i64.wrap ((p1.len : Int) - 1)) : Int) < (p1.len : Nat) ∧ Option.isSome p1.a = true) ∧
    ∃ x2 : Int, View.load V1 (Option.map (fun q => Addr.add q (Int.toNat (IntKind.i64.wrap ((p1.len : Int) - 1)) * 1)) p1.a) = some (.int .u32 x2) ∧
    CallV Try.prog 159 #[.int .u32 x2] V1 fun v V4 => ∃ r5 : Int, v = .int .i64 r5 ∧ -- math/bits.LeadingZeros32
    CallV Try.prog 160 #[p1.v, .int .i64 r5] V4 fun v V5 => ∃ r6 : Sl, v = r6.v ∧ -- (num.nat).shl
    ((0 : Int) ≤ (IntKind.i64.wrap ((p0.len : Int) + 1)) ∧ ((IntKind.i64.wrap ((p0.len : Int) + 1)) : Int) ≤ (IntKind.i64.wrap ((p0.len : Int) + 1)) ∧ (4 : Int) * (IntKind.i64.wrap ((p0.len : Int) + 1)) ≤ 281474976710656 ∧ ((IntKind.i64.wrap ((p0.len : Int) + 1)) : Int) ≤ 9223372036854775807) ∧
    CallV Try.prog 160 #[p0.v, .int .i64 r5] V5 fun v V6 => ∃ r7 : Sl, v = r7.v ∧ -- (num.nat).shl
    ∃ l1 : List Value, View.has V6 r7.a l1 ∧ List.length l1 = (min r7.len (Int.toNat (IntKind.i64.wrap ((p0.len : Int) + 1)))) * 1 ∧ (l1 = [] ∨ Option.isSome r7.a = true) ∧ (∀ v ∈ l1, Value.oneCell' v = true) ∧ 0 + List.length l1 ≤ List.length ((List.replicate (Int.toNat (IntKind.i64.wrap ((p0.len : Int) + 1))) [Value.int .u32 0]).flatten) ∧
    ((0 : Int) ≤ (IntKind.i64.wrap (((Int.toNat (IntKind.i64.wrap ((p0.len : Int) + 1)) : Nat) : Int) - (p1.len : Int))) ∧ ((IntKind.i64.wrap (((Int.toNat (IntKind.i64.wrap ((p0.len : Int) + 1)) : Nat) : Int) - (p1.len : Int))) : Int) ≤ (IntKind.i64.wrap (((Int.toNat (IntKind.i64.wrap ((p0.len : Int) + 1)) : Nat) : Int) - (p1.len : Int))) ∧ (4 : Int) * (IntKind.i64.wrap (((Int.toNat (IntKind.i64.wrap ((p0.len : Int) + 1)) : Nat) : Int) - (p1.len : Int))) ≤ 281474976710656 ∧ ((IntKind.i64.wrap (((Int.toNat (IntKind.i64.wrap ((p0.len : Int) + 1)) : Nat) : Int) - (p1.len : Int))) : Int) ≤ 9223372036854775807) ∧
    I_nat_div_0 (C_nat_div_0.mk r5 r6) (L_nat_div_0.mk (IntKind.i64.wrap (((Int.toNat (IntKind.i64.wrap (((Int.toNat (IntKind.i64.wrap ((p0.len : Int) + 1)) : Nat) : Int) - (p1.len : Int))) : Nat) : Int) - 1)) (setL ((List.replicate (Int.toNat (IntKind.i64.wrap ((p0.len : Int) + 1))) [Value.int .u32 0]).flatten) 0 l1) ((List.replicate (Int.toNat (IntKind.i64.wrap (((Int.toNat (IntKind.i64.wrap ((p0.len : Int) + 1)) : Nat) : Int) - (p1.len : Int)))) [Value.int .u32 0]).flatten)) V6 ∧
    (∀ (x4 : L_nat_div_0) (V7 : View), View.le V6 V7 → I_nat_div_0 (C_nat_div_0.mk r5 r6) x4 V7 →
      ((decide ((x4.t13 : Int) ≥ 0)) = true →
        ((0 : Int) ≤ (IntKind.i64.wrap (x4.t13 + (p1.len : Int))) ∧ ((IntKind.i64.wrap (x4.t13 + (p1.len : Int))) : Int) < (Int.toNat (IntKind.i64.wrap ((p0.len : Int) + 1)) : Nat)) ∧
      ∃ x5 : Int, x4.o55[0 + Int.toNat (IntKind.i64.wrap (x4.t13 + (p1.len : Int))) * 1]? = some (.int .u32 x5) ∧
      ((0 : Int) ≤ (IntKind.i64.wrap ((IntKind.i64.wrap (x4.t13 + (p1.len : Int))) - 1)) ∧ ((IntKind.i64.wrap ((IntKind.i64.wrap (x4.t13 + (p1.len : Int))) - 1)) : Int) < (Int.toNat (IntKind.i64.wrap ((p0.len : Int) + 1)) : Nat)) ∧
      ∃ x6 : Int, x4.o55[0 + Int.toNat (IntKind.i64.wrap ((IntKind.i64.wrap (x4.t13 + (p1.len : Int))) - 1)) * 1]? = some (.int .u32 x6) ∧
      ((0 : Int) ≤ (IntKind.i64.wrap ((p1.len : Int) - 1)) ∧ ((IntKind.i64.wrap ((p1.len : Int) - 1)) : Int) < (r6.len : Nat) ∧ Option.isSome r6.a = true) ∧
      ∃ x7 : Int, View.load V7 (Option.map (fun q => Addr.add q (Int.toNat (IntKind.i64.wrap ((p1.len : Int) - 1)) * 1)) r6.a) = some (.int .u32 x7) ∧
      ((IntKind.u64.wrap x7) : Int) ≠ 0 ∧
      ((0 : Int) ≤ (IntKind.i64.wrap ((p1.len : Int) - 1)) ∧ ((IntKind.i64.wrap ((p1.len : Int) - 1)) : Int) < (r6.len : Nat) ∧ Option.isSome r6.a = true) ∧
      ∃ x8 : Int, View.load V7 (Option.map (fun q => Addr.add q (Int.toNat (IntKind.i64.wrap ((p1.len : Int) - 1)) * 1)) r6.a) = some (.int .u32 x8) ∧
      ((IntKind.u64.wrap x8) : Int) ≠ 0 ∧
      (I_nat_div_2 (C_nat_div_2.mk r5 r6 x4.t13 x4.o55 x4.o65) (L_nat_div_2.mk (IntKind.u64.wrap (Int.tdiv (IntKind.u64.wrap (BitVec.toNat ((BitVec.ofInt IntKind.u64.bits (IntKind.u64.wrap ((IntKind.u64.wrap x5) * 2 ^ (min (Int.toNat 32) (IntKind.u64.bits))))) ||| (BitVec.ofInt IntKind.u64.bits (IntKind.u64.wrap x6))))) (IntKind.u64.wrap x7))) (Int.tmod (IntKind.u64.wrap (BitVec.toNat ((BitVec.ofInt IntKind.u64.bits (IntKind.u64.wrap ((IntKind.u64.wrap x5) * 2 ^ (min (Int.toNat 32) (IntKind.u64.bits))))) ||| (BitVec.ofInt IntKind.u64.bits (IntKind.u64.wrap x6))))) (IntKind.u64.wrap x8))) V7 ∧
        (∀ (x11 : L_nat_div_2) (V9 : View), View.le V7 V9 → I_nat_div_2 (C_nat_div_2.mk r5 r6 x4.t13 x4.o55 x4.o65) x11 V9 →
          ((decide ((x11.t15 : Int) ≥ 4294967296)) = true →
          (true = true →
            ((0 : Int) ≤ (IntKind.i64.wrap ((p1.len : Int) - 1)) ∧ ((IntKind.i64.wrap ((p1.len : Int) - 1)) : Int) < (r6.len : Nat) ∧ Option.isSome r6.a = true) ∧
          ∃ x12 : Int, View.load V9 (Option.map (fun q => Addr.add q (Int.toNat (IntKind.i64.wrap ((p1.len : Int) - 1)) * 1)) r6.a) = some (.int .u32 x12) ∧
          ((decide (((IntKind.u64.wrap (x11.t16 + (IntKind.u64.wrap x12))) : Int) ≥ 4294967296)) = true →
            I_nat_div_1 (C_nat_div_1.mk r5 r6 x4.t13 x4.o55 x4.o65) (L_nat_div_1.mk (IntKind.u64.wrap (x11.t15 - 1))) V9) ∧
          ((decide (((IntKind.u64.wrap (x11.t16 + (IntKind.u64.wrap x12))) : Int) ≥ 4294967296)) = false →
            I_nat_div_2 (C_nat_div_2.mk r5 r6 x4.t13 x4.o55 x4.o65) (L_nat_div_2.mk (IntKind.u64.wrap (x11.t15 - 1)) (IntKind.u64.wrap (x11.t16 + (IntKind.u64.wrap x12)))) V9 ∧ mu_nat_div_2 (C_nat_div_2.mk r5 r6 x4.t13 x4.o55 x4.o65) (L_nat_div_2.mk (IntKind.u64.wrap (x11.t15 - 1)) (IntKind.u64.wrap (x11.t16 + (IntKind.u64.wrap x12)))) V9 < mu_nat_div_2 (C_nat_div_2.mk r5 r6 x4.t13 x4.o55 x4.o65) x11 V9)) ∧
          (true = false →
            I_nat_div_1 (C_nat_div_1.mk r5 r6 x4.t13 x4.o55 x4.o65) (L_nat_div_1.mk x11.t15) V9)) ∧
          ((decide ((x11.t15 : Int) ≥ 4294967296)) = false →
          ((0 : Int) ≤ (IntKind.i64.wrap ((p1.len : Int) - 2)) ∧ ((IntKind.i64.wrap ((p1.len : Int) - 2)) : Int) < (r6.len : Nat) ∧ Option.isSome r6.a = true) ∧
          ∃ x16 : Int, View.load V9 (Option.map (fun q => Addr.add q (Int.toNat (IntKind.i64.wrap ((p1.len : Int) - 2)) * 1)) r6.a) = some (.int .u32 x16) ∧
          ((0 : Int) ≤ (IntKind.i64.wrap ((IntKind.i64.wrap (x4.t13 + (p1.len : Int))) - 2)) ∧ ((IntKind.i64.wrap ((IntKind.i64.wrap (x4.t13 + (p1.len : Int))) - 2)) : Int) < (Int.toNat (IntKind.i64.wrap ((p0.len : Int) + 1)) : Nat)) ∧
          ∃ x17 : Int, x4.o55[0 + Int.toNat (IntKind.i64.wrap ((IntKind.i64.wrap (x4.t13 + (p1.len : Int))) - 2)) * 1]? = some (.int .u32 x17) ∧
          ((decide (((IntKind.u64.wrap (x11.t15 * (IntKind.u64.wrap x16))) : Int) > (IntKind.u64.wrap (BitVec.toNat ((BitVec.ofInt IntKind.u64.bits (IntKind.u64.wrap (x11.t16 * 2 ^ (min (Int.toNat 32) (IntKind.u64.bits))))) ||| (BitVec.ofInt IntKind.u64.bits (IntKind.u64.wrap x17))))))) = true →
            ((0 : Int) ≤ (IntKind.i64.wrap ((p1.len : Int) - 1)) ∧ ((IntKind.i64.wrap ((p1.len : Int) - 1)) : Int) < (r6.len : Nat) ∧ Option.isSome r6.a = true) ∧
          ∃ x18 : Int, View.load V9 (Option.map (fun q => Addr.add q (Int.toNat (IntKind.i64.wrap ((p1.len : Int) - 1)) * 1)) r6.a) = some (.int .u32 x18) ∧
          ((decide (((IntKind.u64.wrap (x11.t16 + (IntKind.u64.wrap x18))) : Int) ≥ 4294967296)) = true →
            I_nat_div_1 (C_nat_div_1.mk r5 r6 x4.t13 x4.o55 x4.o65) (L_nat_div_1.mk (IntKind.u64.wrap (x11.t15 - 1))) V9) ∧
          ((decide (((IntKind.u64.wrap (x11.t16 + (IntKind.u64.wrap x18))) : Int) ≥ 4294967296)) = false →
            I_nat_div_2 (C_nat_div_2.mk r5 r6 x4.t13 x4.o55 x4.o65) (L_nat_div_2.mk (IntKind.u64.wrap (x11.t15 - 1)) (IntKind.u64.wrap (x11.t16 + (IntKind.u64.wrap x18)))) V9 ∧ mu_nat_div_2 (C_nat_div_2.mk r5 r6 x4.t13 x4.o55 x4.o65) (L_nat_div_2.mk (IntKind.u64.wrap (x11.t15 - 1)) (IntKind.u64.wrap (x11.t16 + (IntKind.u64.wrap x18)))) V9 < mu_nat_div_2 (C_nat_div_2.mk r5 r6 x4.t13 x4.o55 x4.o65) x11 V9)) ∧
          ((decide (((IntKind.u64.wrap (x11.t15 * (IntKind.u64.wrap x16))) : Int) > (IntKind.u64.wrap (BitVec.toNat ((BitVec.ofInt IntKind.u64.bits (IntKind.u64.wrap (x11.t16 * 2 ^ (min (Int.toNat 32) (IntKind.u64.bits))))) ||| (BitVec.ofInt IntKind.u64.bits (IntKind.u64.wrap x17))))))) = false →
            I_nat_div_1 (C_nat_div_1.mk r5 r6 x4.t13 x4.o55 x4.o65) (L_nat_div_1.mk x11.t15) V9)))) ∧
      (∀ (x9 : L_nat_div_1) (V8 : View), View.le V7 V8 → I_nat_div_1 (C_nat_div_1.mk r5 r6 x4.t13 x4.o55 x4.o65) x9 V8 →
        CallD Try.prog 161 (fun b => (Value.slice (some ⟨b, 0, none⟩) (Int.toNat (IntKind.i64.wrap ((p0.len : Int) + 1))) (Int.toNat (IntKind.i64.wrap ((p0.len : Int) + 1))) :: [r6.v, Value.int .u64 x9.t15, Value.int .i64 x4.t13] : List Value)) 142 x4.o55 V8 fun v l2 V10 => ∃ r8 : Bool, v = .bool r8 ∧ -- num.take
        (r8 = true →
          I_nat_div_3 (C_nat_div_3.mk r5 r6 x4.t13 (IntKind.u64.wrap (x9.t15 - 1)) r6 (r6.len : Int)) (L_nat_div_3.mk 0 0 l2 x4.o65) V10 ∧
          (∀ (x23 : L_nat_div_3) (V11 : View), View.le V10 V11 → I_nat_div_3 (C_nat_div_3.mk r5 r6 x4.t13 (IntKind.u64.wrap (x9.t15 - 1)) r6 (r6.len : Int)) x23 V11 →
            ((decide ((x23.t151 : Int) < (r6.len : Int))) = true →
              ((0 : Int) ≤ x23.t151 ∧ (x23.t151 : Int) < (r6.len : Nat) ∧ Option.isSome r6.a = true) ∧
            ∃ x24 : Int, View.load V11 (Option.map (fun q => Addr.add q (Int.toNat x23.t151 * 1)) r6.a) = some (.int .u32 x24) ∧
            ((0 : Int) ≤ (IntKind.i64.wrap (x23.t151 + x4.t13)) ∧ ((IntKind.i64.wrap (x23.t151 + x4.t13)) : Int) < (Int.toNat (IntKind.i64.wrap ((p0.len : Int) + 1)) : Nat)) ∧
            ∃ x25 : Int, x23.o55[0 + Int.toNat (IntKind.i64.wrap (x23.t151 + x4.t13)) * 1]? = some (.int .u32 x25) ∧
            ((0 : Int) ≤ (IntKind.i64.wrap (x23.t151 + x4.t13)) ∧ ((IntKind.i64.wrap (x23.t151 + x4.t13)) : Int) < (Int.toNat (IntKind.i64.wrap ((p0.len : Int) + 1)) : Nat)) ∧
            0 + Int.toNat (IntKind.i64.wrap (x23.t151 + x4.t13)) * 1 + 1 ≤ List.length x23.o55 ∧
            I_nat_div_3 (C_nat_div_3.mk r5 r6 x4.t13 (IntKind.u64.wrap (x9.t15 - 1)) r6 (r6.len : Int)) (L_nat_div_3.mk (Int.fdiv (IntKind.u64.wrap (x23.t17 + (IntKind.u64.wrap ((IntKind.u64.wrap x25) + (IntKind.u64.wrap x24))))) (2 ^ (min (Int.toNat 32) (IntKind.u64.bits)))) (IntKind.i64.wrap (x23.t151 + 1)) (List.set x23.o55 (0 + Int.toNat (IntKind.i64.wrap (x23.t151 + x4.t13)) * 1) (.int .u32 (IntKind.u32.wrap (IntKind.u64.wrap (x23.t17 + (IntKind.u64.wrap ((IntKind.u64.wrap x25) + (IntKind.u64.wrap x24)))))))) x23.o65) V11 ∧ mu_nat_div_3 (C_nat_div_3.mk r5 r6 x4.t13 (IntKind.u64.wrap (x9.t15 - 1)) r6 (r6.len : Int)) (L_nat_div_3.mk (Int.fdiv (IntKind.u64.wrap (x23.t17 + (IntKind.u64.wrap ((IntKind.u64.wrap x25) + (IntKind.u64.wrap x24))))) (2 ^ (min (Int.toNat 32) (IntKind.u64.bits)))) (IntKind.i64.wrap (x23.t151 + 1)) (List.set x23.o55 (0 + Int.toNat (IntKind.i64.wrap (x23.t151 + x4.t13)) * 1) (.int .u32 (IntKind.u32.wrap (IntKind.u64.wrap (x23.t17 + (IntKind.u64.wrap ((IntKind.u64.wrap x25) + (IntKind.u64.wrap x24)))))))) x23.o65) V11 < mu_nat_div_3 (C_nat_div_3.mk r5 r6 x4.t13 (IntKind.u64.wrap (x9.t15 - 1)) r6 (r6.len : Int)) x23 V11) ∧
            ((decide ((x23.t151 : Int) < (r6.len : Int))) = false →
              ((0 : Int) ≤ (IntKind.i64.wrap (x4.t13 + (p1.len : Int))) ∧ ((IntKind.i64.wrap (x4.t13 + (p1.len : Int))) : Int) < (Int.toNat (IntKind.i64.wrap ((p0.len : Int) + 1)) : Nat)) ∧
          ∃ x27 : Int, x23.o55[0 + Int.toNat (IntKind.i64.wrap (x4.t13 + (p1.len : Int))) * 1]? = some (.int .u32 x27) ∧
          ((0 : Int) ≤ (IntKind.i64.wrap (x4.t13 + (p1.len : Int))) ∧ ((IntKind.i64.wrap (x4.t13 + (p1.len : Int))) : Int) < (Int.toNat (IntKind.i64.wrap ((p0.len : Int) + 1)) : Nat)) ∧
          0 + Int.toNat (IntKind.i64.wrap (x4.t13 + (p1.len : Int))) * 1 + 1 ≤ List.length x23.o55 ∧
          ((0 : Int) ≤ x4.t13 ∧ (x4.t13 : Int) < (Int.toNat (IntKind.i64.wrap (((Int.toNat (IntKind.i64.wrap ((p0.len : Int) + 1)) : Nat) : Int) - (p1.len : Int))) : Nat)) ∧
        0 + Int.toNat x4.t13 * 1 + 1 ≤ List.length x23.o65 ∧
        I_nat_div_0 (C_nat_div_0.mk r5 r6) (L_nat_div_0.mk (IntKind.i64.wrap (x4.t13 - 1)) (List.set x23.o55 (0 + Int.toNat (IntKind.i64.wrap (x4.t13 + (p1.len : Int))) * 1) (.int .u32 (IntKind.u32.wrap (x27 + (IntKind.u32.wrap x23.t17))))) (List.set x23.o65 (0 + Int.toNat x4.t13 * 1) (.int .u32 (IntKind.u32.wrap (IntKind.u64.wrap (x9.t15 - 1)))))) V11 ∧ mu_nat_div_0 (C_nat_div_0.mk r5 r6) (L_nat_div_0.mk (IntKind.i64.wrap (x4.t13 - 1)) (List.set x23.o55 (0 + Int.toNat (IntKind.i64.wrap (x4.t13 + (p1.len : Int))) * 1) (.int .u32 (IntKind.u32.wrap (x27 + (IntKind.u32.wrap x23.t17))))) (List.set x23.o65 (0 + Int.toNat x4.t13 * 1) (.int .u32 (IntKind.u32.wrap (IntKind.u64.wrap (x9.t15 - 1)))))) V11 < mu_nat_div_0 (C_nat_div_0.mk r5 r6) x4 V7))) ∧
        (r8 = false →
          ((0 : Int) ≤ x4.t13 ∧ (x4.t13 : Int) < (Int.toNat (IntKind.i64.wrap (((Int.toNat (IntKind.i64.wrap ((p0.len : Int) + 1)) : Nat) : Int) - (p1.len : Int))) : Nat)) ∧
        0 + Int.toNat x4.t13 * 1 + 1 ≤ List.length x4.o65 ∧
        I_nat_div_0 (C_nat_div_0.mk r5 r6) (L_nat_div_0.mk (IntKind.i64.wrap (x4.t13 - 1)) l2 (List.set x4.o65 (0 + Int.toNat x4.t13 * 1) (.int .u32 (IntKind.u32.wrap x9.t15)))) V10 ∧ mu_nat_div_0 (C_nat_div_0.mk r5 r6) (L_nat_div_0.mk (IntKind.i64.wrap (x4.t13 - 1)) l2 (List.set x4.o65 (0 + Int.toNat x4.t13 * 1) (.int .u32 (IntKind.u32.wrap x9.t15)))) V10 < mu_nat_div_0 (C_nat_div_0.mk r5 r6) x4 V7))) ∧
      ((decide ((x4.t13 : Int) ≥ 0)) = false →
        ∀ (b1 : Nat) (V12 : View), View.le V7 V12 → V12 b1 = some (List.toArray x4.o65) →
    ∀ (b2 : Nat) (V13 : View), View.le V12 V13 → V13 b2 = some (List.toArray x4.o55) →
    ((0 : Int) ≤ 0 ∧ (0 : Int) ≤ (p1.len : Int) ∧ ((p1.len : Int) : Int) ≤ ((Int.toNat (IntKind.i64.wrap ((p0.len : Int) + 1))) : Nat)) ∧
    CallV Try.prog 147 #[(Sl.mk (some (Addr.mk b1 0 none)) (Int.toNat (IntKind.i64.wrap (((Int.toNat (IntKind.i64.wrap ((p0.len : Int) + 1)) : Nat) : Int) - (p1.len : Int)))) (Int.toNat (IntKind.i64.wrap (((Int.toNat (IntKind.i64.wrap ((p0.len : Int) + 1)) : Nat) : Int) - (p1.len : Int))))).v] V13 fun v V14 => ∃ r9 : Sl, v = r9.v ∧ -- num.trim
    CallV Try.prog 147 #[(Sl.mk (if (Int.toNat (IntKind.i64.wrap ((p0.len : Int) + 1))) = Int.toNat 0 then (some (Addr.mk b2 0 none)) else Option.map (fun q => Addr.add q (Int.toNat 0 * 1)) (some (Addr.mk b2 0 none))) (Int.toNat (p1.len : Int) - Int.toNat 0) ((Int.toNat (IntKind.i64.wrap ((p0.len : Int) + 1))) - Int.toNat 0)).v] V14 fun v V15 => ∃ r10 : Sl, v = r10.v ∧ -- num.trim
    CallV Try.prog 162 #[r10.v, .int .i64 r5] V15 fun v V16 => ∃ r11 : Sl, v = r11.v ∧ -- (num.nat).shr
    R (.tuple #[r9.v, r11.v]) V16))))) :
  CallV Try.prog 134 #[p0.v, p1.v] V R :=
  calls_of_vc (Shp := Shp) hmixed Try.func134 (c := Try.f134.body.getD .skip) (args := [p0.v, p1.v]) (by kernel_rfl)
    (.seq (.reg [⟨4, 2, false⟩, ⟨5, 2, false⟩]) (.seq (.seq (.reg [⟨20, 2, false⟩, ⟨21, 2, false⟩, ⟨22, 10, false⟩, ⟨23, 0, false⟩]) (.cond (.seq (.reg [⟨24, 2, false⟩, ⟨4, 2, false⟩, ⟨5, 2, false⟩]) .leaf) .leaf)) (.seq (.seq (.reg [⟨25, 2, false⟩, ⟨26, 0, false⟩, ⟨27, 0, false⟩]) (.cond (.seq (.reg [⟨29, 2, false⟩, ⟨30, 2, false⟩, ⟨31, 7, false⟩, ⟨32, 5, false⟩, ⟨33, 10, false⟩, ⟨28, 2, false⟩, ⟨34, 0, false⟩, ⟨35, 0, false⟩, ⟨6, 2, false⟩, ⟨7, 2, false⟩]) (.seq (.reg [⟨36, 2, false⟩, ⟨37, 2, false⟩, ⟨38, 0, false⟩, ⟨39, 10, false⟩, ⟨4, 2, false⟩, ⟨5, 2, false⟩]) .leaf)) .leaf)) (.seq (.reg [⟨40, 2, false⟩, ⟨41, 0, false⟩, ⟨42, 2, false⟩, ⟨43, 2, false⟩, ⟨44, 0, false⟩, ⟨45, 0, false⟩, ⟨46, 7, false⟩, ⟨47, 5, false⟩, ⟨48, 10, false⟩, ⟨8, 2, false⟩, ⟨9, 2, false⟩]) (.seq (.reg [⟨49, 2, false⟩, ⟨50, 2, false⟩, ⟨51, 10, false⟩, ⟨10, 2, false⟩]) (.seq (.reg [⟨52, 2, false⟩, ⟨53, 0, false⟩, ⟨54, 0, false⟩, ⟨55, 3, false⟩, ⟨11, 2, false⟩]) (.seq (.reg [⟨56, 2, false⟩, ⟨57, 2, false⟩, ⟨58, 2, false⟩, ⟨59, 10, false⟩, ⟨55, 16, false⟩]) (.seq (.reg [⟨61, 2, false⟩, ⟨62, 7, false⟩, ⟨63, 2, false⟩, ⟨64, 0, false⟩, ⟨65, 3, false⟩, ⟨12, 2, false⟩]) (.seq (.seq (.reg [⟨66, 2, false⟩, ⟨67, 7, false⟩, ⟨68, 0, false⟩, ⟨13, 2, false⟩]) (.block (.loop C_nat_div_0 L_nat_div_0 (fun σ => C_nat_div_0.mk (gInt (gTm σ 9)) (Sl.mk (gSlA (gTm σ 10)) (gSlL (gTm σ 10)) (gSlC (gTm σ 10)))) (fun c x => { tm := spT 201 0 [(8, .val (.int .i64 (p1.len : Int))), (9, .val (.int .i64 c.t9)), (10, .val (c.t10.v)), (11, .osl 55 0 (Int.toNat (IntKind.i64.wrap ((p0.len : Int) + 1))) (Int.toNat (IntKind.i64.wrap ((p0.len : Int) + 1)))), (12, .osl 65 0 (Int.toNat (IntKind.i64.wrap (((Int.toNat (IntKind.i64.wrap ((p0.len : Int) + 1)) : Nat) : Int) - (p1.len : Int)))) (Int.toNat (IntKind.i64.wrap (((Int.toNat (IntKind.i64.wrap ((p0.len : Int) + 1)) : Nat) : Int) - (p1.len : Int))))), (13, .val (.int .i64 x.t13))], own := spO 201 0 [(55, ⟨142, .dyn x.o55⟩), (65, ⟨142, .dyn x.o65⟩)] }) I_nat_div_0 mu_nat_div_0 (.seq (.seq (.reg [⟨69, 2, false⟩, ⟨70, 0, false⟩]) (.cond .leaf .leaf)) (.seq (.block (.seq (.draw [(0, ⟨73, 2, false⟩), (1, ⟨74, 2, false⟩), (2, ⟨75, 2, false⟩), (3, ⟨76, 0, false⟩), (4, ⟨77, 7, false⟩), (5, ⟨55, 4, false⟩), (6, ⟨79, 0, false⟩), (7, ⟨80, 0, false⟩), (8, ⟨81, 2, false⟩), (9, ⟨82, 2, false⟩), (10, ⟨83, 2, false⟩), (11, ⟨84, 0, false⟩), (12, ⟨85, 0, false⟩), (13, ⟨86, 7, false⟩), (14, ⟨55, 4, false⟩), (15, ⟨88, 0, false⟩), (16, ⟨89, 0, false⟩), (17, ⟨14, 2, false⟩)] [0, 0, 0, 6, 15, 31, 63, 127, 0, 0, 0, 1536, 3584, 7936, 16128, 32512, 65535, 131071]) (.seq (.draw [(0, ⟨90, 2, false⟩), (1, ⟨91, 2, false⟩), (2, ⟨92, 2, false⟩), (3, ⟨93, 0, false⟩), (4, ⟨94, 7, false⟩), (5, ⟨95, 5, false⟩), (6, ⟨96, 0, false⟩), (7, ⟨97, 12, false⟩), (8, ⟨98, 2, false⟩), (9, ⟨99, 2, false⟩), (10, ⟨100, 2, false⟩), (11, ⟨101, 0, false⟩), (12, ⟨102, 7, false⟩), (13, ⟨103, 5, false⟩), (14, ⟨104, 0, false⟩), (15, ⟨105, 12, false⟩), (16, ⟨15, 2, false⟩), (17, ⟨16, 2, false⟩)] [0, 0, 0, 4, 14, 30, 62, 127, 0, 0, 0, 1024, 3584, 7680, 15872, 32512, 255, 131071]) (.cut C_nat_div_1 L_nat_div_1 (fun σ => C_nat_div_1.mk (gInt (gTm σ 9)) (Sl.mk (gSlA (gTm σ 10)) (gSlL (gTm σ 10)) (gSlC (gTm σ 10))) (gInt (gTm σ 13)) (gDyn σ 55) (gDyn σ 65)) (fun c x => { tm := spT 201 0 [(8, .val (.int .i64 (p1.len : Int))), (9, .val (.int .i64 c.t9)), (10, .val (c.t10.v)), (11, .osl 55 0 (Int.toNat (IntKind.i64.wrap ((p0.len : Int) + 1))) (Int.toNat (IntKind.i64.wrap ((p0.len : Int) + 1)))), (12, .osl 65 0 (Int.toNat (IntKind.i64.wrap (((Int.toNat (IntKind.i64.wrap ((p0.len : Int) + 1)) : Nat) : Int) - (p1.len : Int)))) (Int.toNat (IntKind.i64.wrap (((Int.toNat (IntKind.i64.wrap ((p0.len : Int) + 1)) : Nat) : Int) - (p1.len : Int))))), (13, .val (.int .i64 c.t13)), (15, .val (.int .u64 x.t15))], own := spO 201 0 [(55, ⟨142, .dyn c.o55⟩), (65, ⟨142, .dyn c.o65⟩)] }) I_nat_div_1 (.block (.loop C_nat_div_2 L_nat_div_2 (fun σ => C_nat_div_2.mk (gInt (gTm σ 9)) (Sl.mk (gSlA (gTm σ 10)) (gSlL (gTm σ 10)) (gSlC (gTm σ 10))) (gInt (gTm σ 13)) (gDyn σ 55) (gDyn σ 65)) (fun c x => { tm := spT 201 0 [(8, .val (.int .i64 (p1.len : Int))), (9, .val (.int .i64 c.t9)), (10, .val (c.t10.v)), (11, .osl 55 0 (Int.toNat (IntKind.i64.wrap ((p0.len : Int) + 1))) (Int.toNat (IntKind.i64.wrap ((p0.len : Int) + 1)))), (12, .osl 65 0 (Int.toNat (IntKind.i64.wrap (((Int.toNat (IntKind.i64.wrap ((p0.len : Int) + 1)) : Nat) : Int) - (p1.len : Int)))) (Int.toNat (IntKind.i64.wrap (((Int.toNat (IntKind.i64.wrap ((p0.len : Int) + 1)) : Nat) : Int) - (p1.len : Int))))), (13, .val (.int .i64 c.t13)), (15, .val (.int .u64 x.t15)), (16, .val (.int .u64 x.t16))], own := spO 201 0 [(55, ⟨142, .dyn c.o55⟩), (65, ⟨142, .dyn c.o65⟩)] }) I_nat_div_2 mu_nat_div_2 (.seq (.seq (.draw [(0, ⟨106, 2, false⟩), (1, ⟨107, 0, false⟩), (2, ⟨108, 2, true⟩), (3, ⟨109, 2, false⟩), (4, ⟨110, 2, false⟩), (5, ⟨111, 2, false⟩), (6, ⟨112, 0, false⟩), (7, ⟨113, 7, false⟩), (8, ⟨114, 5, false⟩), (9, ⟨115, 0, false⟩), (10, ⟨116, 0, false⟩), (11, ⟨117, 2, false⟩), (12, ⟨118, 0, false⟩), (13, ⟨119, 2, false⟩), (14, ⟨120, 2, false⟩), (15, ⟨121, 2, false⟩), (16, ⟨122, 0, false⟩), (17, ⟨123, 0, false⟩), (18, ⟨124, 7, false⟩), (19, ⟨55, 4, false⟩), (20, ⟨126, 0, false⟩), (21, ⟨127, 0, false⟩), (22, ⟨128, 0, false⟩), (23, ⟨129, 2, false⟩)] [0, 1, 3, 7, 7, 7, 39, 119, 247, 503, 1023, 7, 2055, 7, 7, 7, 49159, 114695, 253959, 516103, 1040391, 2095111, 4194303, 8388607]) (.cond .leaf .leaf)) (.block (.seq (.reg [⟨130, 2, false⟩, ⟨131, 0, false⟩, ⟨15, 2, false⟩]) (.seq (.reg [⟨132, 2, false⟩, ⟨133, 2, false⟩, ⟨134, 2, false⟩, ⟨135, 0, false⟩, ⟨136, 7, false⟩, ⟨137, 5, false⟩, ⟨138, 0, false⟩, ⟨139, 0, false⟩, ⟨16, 2, false⟩]) (.seq (.reg [⟨140, 2, false⟩, ⟨141, 0, false⟩]) (.cond .leaf .leaf)))))))) (.seq (.seq (.reg [⟨142, 2, false⟩, ⟨143, 2, false⟩, ⟨144, 2, false⟩, ⟨145, 2, false⟩, ⟨55, 14, false⟩]) (.cond (.seq (.reg [⟨147, 2, false⟩, ⟨148, 0, false⟩, ⟨15, 2, false⟩]) (.seq (.reg [⟨17, 2, false⟩]) (.seq (.seq (.reg [⟨149, 2, false⟩, ⟨150, 0, false⟩, ⟨151, 2, false⟩]) (.block (.loop C_nat_div_3 L_nat_div_3 (fun σ => C_nat_div_3.mk (gInt (gTm σ 9)) (Sl.mk (gSlA (gTm σ 10)) (gSlL (gTm σ 10)) (gSlC (gTm σ 10))) (gInt (gTm σ 13)) (gInt (gTm σ 15)) (Sl.mk (gSlA (gTm σ 149)) (gSlL (gTm σ 149)) (gSlC (gTm σ 149))) (gInt (gTm σ 150))) (fun c x => { tm := spT 201 0 [(8, .val (.int .i64 (p1.len : Int))), (9, .val (.int .i64 c.t9)), (10, .val (c.t10.v)), (11, .osl 55 0 (Int.toNat (IntKind.i64.wrap ((p0.len : Int) + 1))) (Int.toNat (IntKind.i64.wrap ((p0.len : Int) + 1)))), (12, .osl 65 0 (Int.toNat (IntKind.i64.wrap (((Int.toNat (IntKind.i64.wrap ((p0.len : Int) + 1)) : Nat) : Int) - (p1.len : Int)))) (Int.toNat (IntKind.i64.wrap (((Int.toNat (IntKind.i64.wrap ((p0.len : Int) + 1)) : Nat) : Int) - (p1.len : Int))))), (13, .val (.int .i64 c.t13)), (15, .val (.int .u64 c.t15)), (17, .val (.int .u64 x.t17)), (149, .val (c.t149.v)), (150, .val (.int .i64 c.t150)), (151, .val (.int .i64 x.t151))], own := spO 201 0 [(55, ⟨142, .dyn x.o55⟩), (65, ⟨142, .dyn x.o65⟩)] }) I_nat_div_3 mu_nat_div_3 (.seq (.reg [⟨152, 0, false⟩]) (.seq (.cond .leaf .leaf) (.seq (.block (.seq (.reg [⟨153, 2, false⟩, ⟨154, 7, false⟩, ⟨155, 5, false⟩, ⟨18, 2, false⟩, ⟨19, 2, false⟩]) (.seq (.reg [⟨156, 2, false⟩, ⟨157, 2, false⟩, ⟨158, 2, false⟩, ⟨159, 2, false⟩, ⟨160, 0, false⟩, ⟨161, 7, false⟩, ⟨55, 4, false⟩, ⟨163, 0, false⟩, ⟨164, 2, false⟩, ⟨165, 0, false⟩, ⟨166, 0, false⟩, ⟨167, 0, false⟩, ⟨17, 2, false⟩]) (.seq (.reg [⟨168, 2, false⟩, ⟨169, 2, false⟩, ⟨170, 2, false⟩, ⟨171, 0, false⟩, ⟨172, 2, false⟩, ⟨173, 0, false⟩, ⟨174, 7, false⟩, ⟨55, 6, false⟩]) (.reg [⟨175, 2, false⟩, ⟨176, 0, false⟩, ⟨17, 2, false⟩]))))) (.reg [⟨177, 0, false⟩, ⟨151, 2, false⟩]))))))) (.reg [⟨178, 2, false⟩, ⟨179, 2, false⟩, ⟨180, 2, false⟩, ⟨181, 0, false⟩, ⟨182, 7, false⟩, ⟨55, 4, false⟩, ⟨184, 2, false⟩, ⟨185, 0, false⟩, ⟨186, 0, false⟩, ⟨187, 7, false⟩, ⟨55, 6, false⟩])))) .leaf)) (.reg [⟨188, 2, false⟩, ⟨189, 2, false⟩, ⟨190, 2, false⟩, ⟨191, 0, false⟩, ⟨192, 7, false⟩, ⟨65, 6, false⟩])))))) (.reg [⟨71, 2, false⟩, ⟨72, 0, false⟩, ⟨13, 2, false⟩])))))) (.seq (.pub 65 (.pub 55 (.draw [(0, ⟨193, 2, false⟩), (2, ⟨195, 2, false⟩), (3, ⟨196, 2, false⟩), (4, ⟨197, 7, false⟩), (6, ⟨199, 2, false⟩), (1, ⟨194, 10, false⟩), (5, ⟨198, 10, false⟩), (7, ⟨200, 10, false⟩), (8, ⟨4, 2, false⟩), (9, ⟨5, 2, false⟩)] [0, 1, 0, 0, 12, 31, 0, 127, 255, 511]))) .leaf))))))))))
    (Eq.mpr (by kernel_rfl) (show CallV Try.prog 145 #[p0.v, p1.v] V fun v V1 => ∃ r1 : Int, v = .int .i64 r1 ∧ -- (num.nat).cmp
    ((decide ((r1 : Int) < 0)) = true →
      R (.tuple #[(Sl.mk none 0 0).v, p0.v]) V1) ∧
    ((decide ((r1 : Int) < 0)) = false →
      ((((p1.len : Int) : Int) == 1) = true →
      ((0 : Int) ≤ 0 ∧ (0 : Int) < (p1.len : Nat) ∧ Option.isSome p1.a = true) ∧
      ∃ x1 : Int, View.load V1 (Option.map (fun q => Addr.add q (Int.toNat 0 * 1)) p1.a) = some (.int .u32 x1) ∧
      CallV Try.prog 158 #[p0.v, .int .u32 x1] V1 fun v V2 => ∃ (r2 : Sl) (r3 : Int), v = .tuple #[r2.v, .int .u32 r3] ∧ -- (num.nat).short
      CallV Try.prog 130 #[.int .u64 (IntKind.u64.wrap r3)] V2 fun v V3 => ∃ r4 : Sl, v = r4.v ∧ -- num.natOf
      R (.tuple #[r2.v, r4.v]) V3) ∧
    ((((p1.len : Int) : Int) == 1) = false →
      ((0 : Int) ≤ (IntKind.i64.wrap ((p1.len : Int) - 1)) ∧ ((IntKind.i64.wrap ((p1.len : Int) - 1)) : Int) < (p1.len : Nat) ∧ Option.isSome p1.a = true) ∧
    ∃ x2 : Int, View.load V1 (Option.map (fun q => Addr.add q (Int.toNat (IntKind.i64.wrap ((p1.len : Int) - 1)) * 1)) p1.a) = some (.int .u32 x2) ∧
    CallV Try.prog 159 #[.int .u32 x2] V1 fun v V4 => ∃ r5 : Int, v = .int .i64 r5 ∧ -- math/bits.LeadingZeros32
    CallV Try.prog 160 #[p1.v, .int .i64 r5] V4 fun v V5 => ∃ r6 : Sl, v = r6.v ∧ -- (num.nat).shl
    ((0 : Int) ≤ (IntKind.i64.wrap ((p0.len : Int) + 1)) ∧ ((IntKind.i64.wrap ((p0.len : Int) + 1)) : Int) ≤ (IntKind.i64.wrap ((p0.len : Int) + 1)) ∧ (4 : Int) * (IntKind.i64.wrap ((p0.len : Int) + 1)) ≤ 281474976710656 ∧ ((IntKind.i64.wrap ((p0.len : Int) + 1)) : Int) ≤ 9223372036854775807) ∧
    CallV Try.prog 160 #[p0.v, .int .i64 r5] V5 fun v V6 => ∃ r7 : Sl, v = r7.v ∧ -- (num.nat).shl
    ∃ l1 : List Value, View.has V6 r7.a l1 ∧ List.length l1 = (min r7.len (Int.toNat (IntKind.i64.wrap ((p0.len : Int) + 1)))) * 1 ∧ (l1 = [] ∨ Option.isSome r7.a = true) ∧ (∀ v ∈ l1, Value.oneCell' v = true) ∧ 0 + List.length l1 ≤ List.length ((List.replicate (Int.toNat (IntKind.i64.wrap ((p0.len : Int) + 1))) [Value.int .u32 0]).flatten) ∧
    ((0 : Int) ≤ (IntKind.i64.wrap (((Int.toNat (IntKind.i64.wrap ((p0.len : Int) + 1)) : Nat) : Int) - (p1.len : Int))) ∧ ((IntKind.i64.wrap (((Int.toNat (IntKind.i64.wrap ((p0.len : Int) + 1)) : Nat) : Int) - (p1.len : Int))) : Int) ≤ (IntKind.i64.wrap (((Int.toNat (IntKind.i64.wrap ((p0.len : Int) + 1)) : Nat) : Int) - (p1.len : Int))) ∧ (4 : Int) * (IntKind.i64.wrap (((Int.toNat (IntKind.i64.wrap ((p0.len : Int) + 1)) : Nat) : Int) - (p1.len : Int))) ≤ 281474976710656 ∧ ((IntKind.i64.wrap (((Int.toNat (IntKind.i64.wrap ((p0.len : Int) + 1)) : Nat) : Int) - (p1.len : Int))) : Int) ≤ 9223372036854775807) ∧
    (∃ x3 : L_nat_div_0, ((SV.val (.int .i64 (p1.len : Int)) = SV.val (.int .i64 (p1.len : Int)) ∧ SV.val (.int .i64 r5) = SV.val (.int .i64 r5) ∧ SV.val (r6.v) = SV.val (r6.v) ∧ SV.osl 55 0 (Int.toNat (IntKind.i64.wrap ((p0.len : Int) + 1))) (Int.toNat (IntKind.i64.wrap ((p0.len : Int) + 1))) = SV.osl 55 0 (Int.toNat (IntKind.i64.wrap ((p0.len : Int) + 1))) (Int.toNat (IntKind.i64.wrap ((p0.len : Int) + 1))) ∧ SV.osl 65 0 (Int.toNat (IntKind.i64.wrap (((Int.toNat (IntKind.i64.wrap ((p0.len : Int) + 1)) : Nat) : Int) - (p1.len : Int)))) (Int.toNat (IntKind.i64.wrap (((Int.toNat (IntKind.i64.wrap ((p0.len : Int) + 1)) : Nat) : Int) - (p1.len : Int)))) = SV.osl 65 0 (Int.toNat (IntKind.i64.wrap (((Int.toNat (IntKind.i64.wrap ((p0.len : Int) + 1)) : Nat) : Int) - (p1.len : Int)))) (Int.toNat (IntKind.i64.wrap (((Int.toNat (IntKind.i64.wrap ((p0.len : Int) + 1)) : Nat) : Int) - (p1.len : Int)))) ∧ SV.val (.int .i64 (IntKind.i64.wrap (((Int.toNat (IntKind.i64.wrap (((Int.toNat (IntKind.i64.wrap ((p0.len : Int) + 1)) : Nat) : Int) - (p1.len : Int))) : Nat) : Int) - 1))) = SV.val (.int .i64 x3.t13) ∧ True) ∧ ((some (⟨142, .dyn (setL ((List.replicate (Int.toNat (IntKind.i64.wrap ((p0.len : Int) + 1))) [Value.int .u32 0]).flatten) 0 l1)⟩) : Option OB) = some (⟨142, .dyn x3.o55⟩) ∧ (some (⟨142, .dyn ((List.replicate (Int.toNat (IntKind.i64.wrap (((Int.toNat (IntKind.i64.wrap ((p0.len : Int) + 1)) : Nat) : Int) - (p1.len : Int)))) [Value.int .u32 0]).flatten)⟩) : Option OB) = some (⟨142, .dyn x3.o65⟩) ∧ True)) ∧ I_nat_div_0 (C_nat_div_0.mk r5 r6) x3 V6) ∧
    (∀ (x4 : L_nat_div_0) (V7 : View), View.le V6 V7 → I_nat_div_0 (C_nat_div_0.mk r5 r6) x4 V7 →
      ((decide ((x4.t13 : Int) ≥ 0)) = true →
        ((0 : Int) ≤ (IntKind.i64.wrap (x4.t13 + (p1.len : Int))) ∧ ((IntKind.i64.wrap (x4.t13 + (p1.len : Int))) : Int) < (Int.toNat (IntKind.i64.wrap ((p0.len : Int) + 1)) : Nat)) ∧
      ∃ x5 : Int, x4.o55[0 + Int.toNat (IntKind.i64.wrap (x4.t13 + (p1.len : Int))) * 1]? = some (.int .u32 x5) ∧
      ((0 : Int) ≤ (IntKind.i64.wrap ((IntKind.i64.wrap (x4.t13 + (p1.len : Int))) - 1)) ∧ ((IntKind.i64.wrap ((IntKind.i64.wrap (x4.t13 + (p1.len : Int))) - 1)) : Int) < (Int.toNat (IntKind.i64.wrap ((p0.len : Int) + 1)) : Nat)) ∧
      ∃ x6 : Int, x4.o55[0 + Int.toNat (IntKind.i64.wrap ((IntKind.i64.wrap (x4.t13 + (p1.len : Int))) - 1)) * 1]? = some (.int .u32 x6) ∧
      ((0 : Int) ≤ (IntKind.i64.wrap ((p1.len : Int) - 1)) ∧ ((IntKind.i64.wrap ((p1.len : Int) - 1)) : Int) < (r6.len : Nat) ∧ Option.isSome r6.a = true) ∧
      ∃ x7 : Int, View.load V7 (Option.map (fun q => Addr.add q (Int.toNat (IntKind.i64.wrap ((p1.len : Int) - 1)) * 1)) r6.a) = some (.int .u32 x7) ∧
      ((IntKind.u64.wrap x7) : Int) ≠ 0 ∧
      ((0 : Int) ≤ (IntKind.i64.wrap ((p1.len : Int) - 1)) ∧ ((IntKind.i64.wrap ((p1.len : Int) - 1)) : Int) < (r6.len : Nat) ∧ Option.isSome r6.a = true) ∧
      ∃ x8 : Int, View.load V7 (Option.map (fun q => Addr.add q (Int.toNat (IntKind.i64.wrap ((p1.len : Int) - 1)) * 1)) r6.a) = some (.int .u32 x8) ∧
      ((IntKind.u64.wrap x8) : Int) ≠ 0 ∧
      ((∃ x10 : L_nat_div_2, ((SV.val (.int .i64 (p1.len : Int)) = SV.val (.int .i64 (p1.len : Int)) ∧ SV.val (.int .i64 r5) = SV.val (.int .i64 r5) ∧ SV.val (r6.v) = SV.val (r6.v) ∧ SV.osl 55 0 (Int.toNat (IntKind.i64.wrap ((p0.len : Int) + 1))) (Int.toNat (IntKind.i64.wrap ((p0.len : Int) + 1))) = SV.osl 55 0 (Int.toNat (IntKind.i64.wrap ((p0.len : Int) + 1))) (Int.toNat (IntKind.i64.wrap ((p0.len : Int) + 1))) ∧ SV.osl 65 0 (Int.toNat (IntKind.i64.wrap (((Int.toNat (IntKind.i64.wrap ((p0.len : Int) + 1)) : Nat) : Int) - (p1.len : Int)))) (Int.toNat (IntKind.i64.wrap (((Int.toNat (IntKind.i64.wrap ((p0.len : Int) + 1)) : Nat) : Int) - (p1.len : Int)))) = SV.osl 65 0 (Int.toNat (IntKind.i64.wrap (((Int.toNat (IntKind.i64.wrap ((p0.len : Int) + 1)) : Nat) : Int) - (p1.len : Int)))) (Int.toNat (IntKind.i64.wrap (((Int.toNat (IntKind.i64.wrap ((p0.len : Int) + 1)) : Nat) : Int) - (p1.len : Int)))) ∧ SV.val (.int .i64 x4.t13) = SV.val (.int .i64 x4.t13) ∧ SV.val (.int .u64 (IntKind.u64.wrap (Int.tdiv (IntKind.u64.wrap (BitVec.toNat ((BitVec.ofInt IntKind.u64.bits (IntKind.u64.wrap ((IntKind.u64.wrap x5) * 2 ^ (min (Int.toNat 32) (IntKind.u64.bits))))) ||| (BitVec.ofInt IntKind.u64.bits (IntKind.u64.wrap x6))))) (IntKind.u64.wrap x7)))) = SV.val (.int .u64 x10.t15) ∧ SV.val (.int .u64 (Int.tmod (IntKind.u64.wrap (BitVec.toNat ((BitVec.ofInt IntKind.u64.bits (IntKind.u64.wrap ((IntKind.u64.wrap x5) * 2 ^ (min (Int.toNat 32) (IntKind.u64.bits))))) ||| (BitVec.ofInt IntKind.u64.bits (IntKind.u64.wrap x6))))) (IntKind.u64.wrap x8))) = SV.val (.int .u64 x10.t16) ∧ True) ∧ ((some (⟨142, .dyn x4.o55⟩) : Option OB) = some (⟨142, .dyn x4.o55⟩) ∧ (some (⟨142, .dyn x4.o65⟩) : Option OB) = some (⟨142, .dyn x4.o65⟩) ∧ True)) ∧ I_nat_div_2 (C_nat_div_2.mk r5 r6 x4.t13 x4.o55 x4.o65) x10 V7) ∧
        (∀ (x11 : L_nat_div_2) (V9 : View), View.le V7 V9 → I_nat_div_2 (C_nat_div_2.mk r5 r6 x4.t13 x4.o55 x4.o65) x11 V9 →
          ((decide ((x11.t15 : Int) ≥ 4294967296)) = true →
          (true = true →
            ((0 : Int) ≤ (IntKind.i64.wrap ((p1.len : Int) - 1)) ∧ ((IntKind.i64.wrap ((p1.len : Int) - 1)) : Int) < (r6.len : Nat) ∧ Option.isSome r6.a = true) ∧
          ∃ x12 : Int, View.load V9 (Option.map (fun q => Addr.add q (Int.toNat (IntKind.i64.wrap ((p1.len : Int) - 1)) * 1)) r6.a) = some (.int .u32 x12) ∧
          ((decide (((IntKind.u64.wrap (x11.t16 + (IntKind.u64.wrap x12))) : Int) ≥ 4294967296)) = true →
            ∃ x13 : L_nat_div_1, ((SV.val (.int .i64 (p1.len : Int)) = SV.val (.int .i64 (p1.len : Int)) ∧ SV.val (.int .i64 r5) = SV.val (.int .i64 r5) ∧ SV.val (r6.v) = SV.val (r6.v) ∧ SV.osl 55 0 (Int.toNat (IntKind.i64.wrap ((p0.len : Int) + 1))) (Int.toNat (IntKind.i64.wrap ((p0.len : Int) + 1))) = SV.osl 55 0 (Int.toNat (IntKind.i64.wrap ((p0.len : Int) + 1))) (Int.toNat (IntKind.i64.wrap ((p0.len : Int) + 1))) ∧ SV.osl 65 0 (Int.toNat (IntKind.i64.wrap (((Int.toNat (IntKind.i64.wrap ((p0.len : Int) + 1)) : Nat) : Int) - (p1.len : Int)))) (Int.toNat (IntKind.i64.wrap (((Int.toNat (IntKind.i64.wrap ((p0.len : Int) + 1)) : Nat) : Int) - (p1.len : Int)))) = SV.osl 65 0 (Int.toNat (IntKind.i64.wrap (((Int.toNat (IntKind.i64.wrap ((p0.len : Int) + 1)) : Nat) : Int) - (p1.len : Int)))) (Int.toNat (IntKind.i64.wrap (((Int.toNat (IntKind.i64.wrap ((p0.len : Int) + 1)) : Nat) : Int) - (p1.len : Int)))) ∧ SV.val (.int .i64 x4.t13) = SV.val (.int .i64 x4.t13) ∧ SV.val (.int .u64 (IntKind.u64.wrap (x11.t15 - 1))) = SV.val (.int .u64 x13.t15) ∧ True) ∧ ((some (⟨142, .dyn x4.o55⟩) : Option OB) = some (⟨142, .dyn x4.o55⟩) ∧ (some (⟨142, .dyn x4.o65⟩) : Option OB) = some (⟨142, .dyn x4.o65⟩) ∧ True)) ∧ I_nat_div_1 (C_nat_div_1.mk r5 r6 x4.t13 x4.o55 x4.o65) x13 V9) ∧
          ((decide (((IntKind.u64.wrap (x11.t16 + (IntKind.u64.wrap x12))) : Int) ≥ 4294967296)) = false →
            ∃ x14 : L_nat_div_2, ((SV.val (.int .i64 (p1.len : Int)) = SV.val (.int .i64 (p1.len : Int)) ∧ SV.val (.int .i64 r5) = SV.val (.int .i64 r5) ∧ SV.val (r6.v) = SV.val (r6.v) ∧ SV.osl 55 0 (Int.toNat (IntKind.i64.wrap ((p0.len : Int) + 1))) (Int.toNat (IntKind.i64.wrap ((p0.len : Int) + 1))) = SV.osl 55 0 (Int.toNat (IntKind.i64.wrap ((p0.len : Int) + 1))) (Int.toNat (IntKind.i64.wrap ((p0.len : Int) + 1))) ∧ SV.osl 65 0 (Int.toNat (IntKind.i64.wrap (((Int.toNat (IntKind.i64.wrap ((p0.len : Int) + 1)) : Nat) : Int) - (p1.len : Int)))) (Int.toNat (IntKind.i64.wrap (((Int.toNat (IntKind.i64.wrap ((p0.len : Int) + 1)) : Nat) : Int) - (p1.len : Int)))) = SV.osl 65 0 (Int.toNat (IntKind.i64.wrap (((Int.toNat (IntKind.i64.wrap ((p0.len : Int) + 1)) : Nat) : Int) - (p1.len : Int)))) (Int.toNat (IntKind.i64.wrap (((Int.toNat (IntKind.i64.wrap ((p0.len : Int) + 1)) : Nat) : Int) - (p1.len : Int)))) ∧ SV.val (.int .i64 x4.t13) = SV.val (.int .i64 x4.t13) ∧ SV.val (.int .u64 (IntKind.u64.wrap (x11.t15 - 1))) = SV.val (.int .u64 x14.t15) ∧ SV.val (.int .u64 (IntKind.u64.wrap (x11.t16 + (IntKind.u64.wrap x12)))) = SV.val (.int .u64 x14.t16) ∧ True) ∧ ((some (⟨142, .dyn x4.o55⟩) : Option OB) = some (⟨142, .dyn x4.o55⟩) ∧ (some (⟨142, .dyn x4.o65⟩) : Option OB) = some (⟨142, .dyn x4.o65⟩) ∧ True)) ∧ I_nat_div_2 (C_nat_div_2.mk r5 r6 x4.t13 x4.o55 x4.o65) x14 V9 ∧ mu_nat_div_2 (C_nat_div_2.mk r5 r6 x4.t13 x4.o55 x4.o65) x14 V9 < mu_nat_div_2 (C_nat_div_2.mk r5 r6 x4.t13 x4.o55 x4.o65) x11 V9)) ∧
          (true = false →
            ∃ x15 : L_nat_div_1, ((SV.val (.int .i64 (p1.len : Int)) = SV.val (.int .i64 (p1.len : Int)) ∧ SV.val (.int .i64 r5) = SV.val (.int .i64 r5) ∧ SV.val (r6.v) = SV.val (r6.v) ∧ SV.osl 55 0 (Int.toNat (IntKind.i64.wrap ((p0.len : Int) + 1))) (Int.toNat (IntKind.i64.wrap ((p0.len : Int) + 1))) = SV.osl 55 0 (Int.toNat (IntKind.i64.wrap ((p0.len : Int) + 1))) (Int.toNat (IntKind.i64.wrap ((p0.len : Int) + 1))) ∧ SV.osl 65 0 (Int.toNat (IntKind.i64.wrap (((Int.toNat (IntKind.i64.wrap ((p0.len : Int) + 1)) : Nat) : Int) - (p1.len : Int)))) (Int.toNat (IntKind.i64.wrap (((Int.toNat (IntKind.i64.wrap ((p0.len : Int) + 1)) : Nat) : Int) - (p1.len : Int)))) = SV.osl 65 0 (Int.toNat (IntKind.i64.wrap (((Int.toNat (IntKind.i64.wrap ((p0.len : Int) + 1)) : Nat) : Int) - (p1.len : Int)))) (Int.toNat (IntKind.i64.wrap (((Int.toNat (IntKind.i64.wrap ((p0.len : Int) + 1)) : Nat) : Int) - (p1.len : Int)))) ∧ SV.val (.int .i64 x4.t13) = SV.val (.int .i64 x4.t13) ∧ SV.val (.int .u64 x11.t15) = SV.val (.int .u64 x15.t15) ∧ True) ∧ ((some (⟨142, .dyn x4.o55⟩) : Option OB) = some (⟨142, .dyn x4.o55⟩) ∧ (some (⟨142, .dyn x4.o65⟩) : Option OB) = some (⟨142, .dyn x4.o65⟩) ∧ True)) ∧ I_nat_div_1 (C_nat_div_1.mk r5 r6 x4.t13 x4.o55 x4.o65) x15 V9)) ∧
          ((decide ((x11.t15 : Int) ≥ 4294967296)) = false →
          ((0 : Int) ≤ (IntKind.i64.wrap ((p1.len : Int) - 2)) ∧ ((IntKind.i64.wrap ((p1.len : Int) - 2)) : Int) < (r6.len : Nat) ∧ Option.isSome r6.a = true) ∧
          ∃ x16 : Int, View.load V9 (Option.map (fun q => Addr.add q (Int.toNat (IntKind.i64.wrap ((p1.len : Int) - 2)) * 1)) r6.a) = some (.int .u32 x16) ∧
          ((0 : Int) ≤ (IntKind.i64.wrap ((IntKind.i64.wrap (x4.t13 + (p1.len : Int))) - 2)) ∧ ((IntKind.i64.wrap ((IntKind.i64.wrap (x4.t13 + (p1.len : Int))) - 2)) : Int) < (Int.toNat (IntKind.i64.wrap ((p0.len : Int) + 1)) : Nat)) ∧
          ∃ x17 : Int, x4.o55[0 + Int.toNat (IntKind.i64.wrap ((IntKind.i64.wrap (x4.t13 + (p1.len : Int))) - 2)) * 1]? = some (.int .u32 x17) ∧
          ((decide (((IntKind.u64.wrap (x11.t15 * (IntKind.u64.wrap x16))) : Int) > (IntKind.u64.wrap (BitVec.toNat ((BitVec.ofInt IntKind.u64.bits (IntKind.u64.wrap (x11.t16 * 2 ^ (min (Int.toNat 32) (IntKind.u64.bits))))) ||| (BitVec.ofInt IntKind.u64.bits (IntKind.u64.wrap x17))))))) = true →
            ((0 : Int) ≤ (IntKind.i64.wrap ((p1.len : Int) - 1)) ∧ ((IntKind.i64.wrap ((p1.len : Int) - 1)) : Int) < (r6.len : Nat) ∧ Option.isSome r6.a = true) ∧
          ∃ x18 : Int, View.load V9 (Option.map (fun q => Addr.add q (Int.toNat (IntKind.i64.wrap ((p1.len : Int) - 1)) * 1)) r6.a) = some (.int .u32 x18) ∧
          ((decide (((IntKind.u64.wrap (x11.t16 + (IntKind.u64.wrap x18))) : Int) ≥ 4294967296)) = true →
            ∃ x19 : L_nat_div_1, ((SV.val (.int .i64 (p1.len : Int)) = SV.val (.int .i64 (p1.len : Int)) ∧ SV.val (.int .i64 r5) = SV.val (.int .i64 r5) ∧ SV.val (r6.v) = SV.val (r6.v) ∧ SV.osl 55 0 (Int.toNat (IntKind.i64.wrap ((p0.len : Int) + 1))) (Int.toNat (IntKind.i64.wrap ((p0.len : Int) + 1))) = SV.osl 55 0 (Int.toNat (IntKind.i64.wrap ((p0.len : Int) + 1))) (Int.toNat (IntKind.i64.wrap ((p0.len : Int) + 1))) ∧ SV.osl 65 0 (Int.toNat (IntKind.i64.wrap (((Int.toNat (IntKind.i64.wrap ((p0.len : Int) + 1)) : Nat) : Int) - (p1.len : Int)))) (Int.toNat (IntKind.i64.wrap (((Int.toNat (IntKind.i64.wrap ((p0.len : Int) + 1)) : Nat) : Int) - (p1.len : Int)))) = SV.osl 65 0 (Int.toNat (IntKind.i64.wrap (((Int.toNat (IntKind.i64.wrap ((p0.len : Int) + 1)) : Nat) : Int) - (p1.len : Int)))) (Int.toNat (IntKind.i64.wrap (((Int.toNat (IntKind.i64.wrap ((p0.len : Int) + 1)) : Nat) : Int) - (p1.len : Int)))) ∧ SV.val (.int .i64 x4.t13) = SV.val (.int .i64 x4.t13) ∧ SV.val (.int .u64 (IntKind.u64.wrap (x11.t15 - 1))) = SV.val (.int .u64 x19.t15) ∧ True) ∧ ((some (⟨142, .dyn x4.o55⟩) : Option OB) = some (⟨142, .dyn x4.o55⟩) ∧ (some (⟨142, .dyn x4.o65⟩) : Option OB) = some (⟨142, .dyn x4.o65⟩) ∧ True)) ∧ I_nat_div_1 (C_nat_div_1.mk r5 r6 x4.t13 x4.o55 x4.o65) x19 V9) ∧
          ((decide (((IntKind.u64.wrap (x11.t16 + (IntKind.u64.wrap x18))) : Int) ≥ 4294967296)) = false →
            ∃ x20 : L_nat_div_2, ((SV.val (.int .i64 (p1.len : Int)) = SV.val (.int .i64 (p1.len : Int)) ∧ SV.val (.int .i64 r5) = SV.val (.int .i64 r5) ∧ SV.val (r6.v) = SV.val (r6.v) ∧ SV.osl 55 0 (Int.toNat (IntKind.i64.wrap ((p0.len : Int) + 1))) (Int.toNat (IntKind.i64.wrap ((p0.len : Int) + 1))) = SV.osl 55 0 (Int.toNat (IntKind.i64.wrap ((p0.len : Int) + 1))) (Int.toNat (IntKind.i64.wrap ((p0.len : Int) + 1))) ∧ SV.osl 65 0 (Int.toNat (IntKind.i64.wrap (((Int.toNat (IntKind.i64.wrap ((p0.len : Int) + 1)) : Nat) : Int) - (p1.len : Int)))) (Int.toNat (IntKind.i64.wrap (((Int.toNat (IntKind.i64.wrap ((p0.len : Int) + 1)) : Nat) : Int) - (p1.len : Int)))) = SV.osl 65 0 (Int.toNat (IntKind.i64.wrap (((Int.toNat (IntKind.i64.wrap ((p0.len : Int) + 1)) : Nat) : Int) - (p1.len : Int)))) (Int.toNat (IntKind.i64.wrap (((Int.toNat (IntKind.i64.wrap ((p0.len : Int) + 1)) : Nat) : Int) - (p1.len : Int)))) ∧ SV.val (.int .i64 x4.t13) = SV.val (.int .i64 x4.t13) ∧ SV.val (.int .u64 (IntKind.u64.wrap (x11.t15 - 1))) = SV.val (.int .u64 x20.t15) ∧ SV.val (.int .u64 (IntKind.u64.wrap (x11.t16 + (IntKind.u64.wrap x18)))) = SV.val (.int .u64 x20.t16) ∧ True) ∧ ((some (⟨142, .dyn x4.o55⟩) : Option OB) = some (⟨142, .dyn x4.o55⟩) ∧ (some (⟨142, .dyn x4.o65⟩) : Option OB) = some (⟨142, .dyn x4.o65⟩) ∧ True)) ∧ I_nat_div_2 (C_nat_div_2.mk r5 r6 x4.t13 x4.o55 x4.o65) x20 V9 ∧ mu_nat_div_2 (C_nat_div_2.mk r5 r6 x4.t13 x4.o55 x4.o65) x20 V9 < mu_nat_div_2 (C_nat_div_2.mk r5 r6 x4.t13 x4.o55 x4.o65) x11 V9)) ∧
          ((decide (((IntKind.u64.wrap (x11.t15 * (IntKind.u64.wrap x16))) : Int) > (IntKind.u64.wrap (BitVec.toNat ((BitVec.ofInt IntKind.u64.bits (IntKind.u64.wrap (x11.t16 * 2 ^ (min (Int.toNat 32) (IntKind.u64.bits))))) ||| (BitVec.ofInt IntKind.u64.bits (IntKind.u64.wrap x17))))))) = false →
            ∃ x21 : L_nat_div_1, ((SV.val (.int .i64 (p1.len : Int)) = SV.val (.int .i64 (p1.len : Int)) ∧ SV.val (.int .i64 r5) = SV.val (.int .i64 r5) ∧ SV.val (r6.v) = SV.val (r6.v) ∧ SV.osl 55 0 (Int.toNat (IntKind.i64.wrap ((p0.len : Int) + 1))) (Int.toNat (IntKind.i64.wrap ((p0.len : Int) + 1))) = SV.osl 55 0 (Int.toNat (IntKind.i64.wrap ((p0.len : Int) + 1))) (Int.toNat (IntKind.i64.wrap ((p0.len : Int) + 1))) ∧ SV.osl 65 0 (Int.toNat (IntKind.i64.wrap (((Int.toNat (IntKind.i64.wrap ((p0.len : Int) + 1)) : Nat) : Int) - (p1.len : Int)))) (Int.toNat (IntKind.i64.wrap (((Int.toNat (IntKind.i64.wrap ((p0.len : Int) + 1)) : Nat) : Int) - (p1.len : Int)))) = SV.osl 65 0 (Int.toNat (IntKind.i64.wrap (((Int.toNat (IntKind.i64.wrap ((p0.len : Int) + 1)) : Nat) : Int) - (p1.len : Int)))) (Int.toNat (IntKind.i64.wrap (((Int.toNat (IntKind.i64.wrap ((p0.len : Int) + 1)) : Nat) : Int) - (p1.len : Int)))) ∧ SV.val (.int .i64 x4.t13) = SV.val (.int .i64 x4.t13) ∧ SV.val (.int .u64 x11.t15) = SV.val (.int .u64 x21.t15) ∧ True) ∧ ((some (⟨142, .dyn x4.o55⟩) : Option OB) = some (⟨142, .dyn x4.o55⟩) ∧ (some (⟨142, .dyn x4.o65⟩) : Option OB) = some (⟨142, .dyn x4.o65⟩) ∧ True)) ∧ I_nat_div_1 (C_nat_div_1.mk r5 r6 x4.t13 x4.o55 x4.o65) x21 V9)))) ∧
      (∀ (x9 : L_nat_div_1) (V8 : View), View.le V7 V8 → I_nat_div_1 (C_nat_div_1.mk r5 r6 x4.t13 x4.o55 x4.o65) x9 V8 →
        CallD Try.prog 161 (fun b => (Value.slice (some ⟨b, 0, none⟩) (Int.toNat (IntKind.i64.wrap ((p0.len : Int) + 1))) (Int.toNat (IntKind.i64.wrap ((p0.len : Int) + 1))) :: [r6.v, Value.int .u64 x9.t15, Value.int .i64 x4.t13] : List Value)) 142 x4.o55 V8 fun v l2 V10 => ∃ r8 : Bool, v = .bool r8 ∧ -- num.take
        (r8 = true →
          (∃ x22 : L_nat_div_3, ((SV.val (.int .i64 (p1.len : Int)) = SV.val (.int .i64 (p1.len : Int)) ∧ SV.val (.int .i64 r5) = SV.val (.int .i64 r5) ∧ SV.val (r6.v) = SV.val (r6.v) ∧ SV.osl 55 0 (Int.toNat (IntKind.i64.wrap ((p0.len : Int) + 1))) (Int.toNat (IntKind.i64.wrap ((p0.len : Int) + 1))) = SV.osl 55 0 (Int.toNat (IntKind.i64.wrap ((p0.len : Int) + 1))) (Int.toNat (IntKind.i64.wrap ((p0.len : Int) + 1))) ∧ SV.osl 65 0 (Int.toNat (IntKind.i64.wrap (((Int.toNat (IntKind.i64.wrap ((p0.len : Int) + 1)) : Nat) : Int) - (p1.len : Int)))) (Int.toNat (IntKind.i64.wrap (((Int.toNat (IntKind.i64.wrap ((p0.len : Int) + 1)) : Nat) : Int) - (p1.len : Int)))) = SV.osl 65 0 (Int.toNat (IntKind.i64.wrap (((Int.toNat (IntKind.i64.wrap ((p0.len : Int) + 1)) : Nat) : Int) - (p1.len : Int)))) (Int.toNat (IntKind.i64.wrap (((Int.toNat (IntKind.i64.wrap ((p0.len : Int) + 1)) : Nat) : Int) - (p1.len : Int)))) ∧ SV.val (.int .i64 x4.t13) = SV.val (.int .i64 x4.t13) ∧ SV.val (.int .u64 (IntKind.u64.wrap (x9.t15 - 1))) = SV.val (.int .u64 (IntKind.u64.wrap (x9.t15 - 1))) ∧ SV.val (.int .u64 0) = SV.val (.int .u64 x22.t17) ∧ SV.val (r6.v) = SV.val (r6.v) ∧ SV.val (.int .i64 (r6.len : Int)) = SV.val (.int .i64 (r6.len : Int)) ∧ SV.val (.int .i64 0) = SV.val (.int .i64 x22.t151) ∧ True) ∧ ((some (⟨142, .dyn l2⟩) : Option OB) = some (⟨142, .dyn x22.o55⟩) ∧ (some (⟨142, .dyn x4.o65⟩) : Option OB) = some (⟨142, .dyn x22.o65⟩) ∧ True)) ∧ I_nat_div_3 (C_nat_div_3.mk r5 r6 x4.t13 (IntKind.u64.wrap (x9.t15 - 1)) r6 (r6.len : Int)) x22 V10) ∧
          (∀ (x23 : L_nat_div_3) (V11 : View), View.le V10 V11 → I_nat_div_3 (C_nat_div_3.mk r5 r6 x4.t13 (IntKind.u64.wrap (x9.t15 - 1)) r6 (r6.len : Int)) x23 V11 →
            ((decide ((x23.t151 : Int) < (r6.len : Int))) = true →
              ((0 : Int) ≤ x23.t151 ∧ (x23.t151 : Int) < (r6.len : Nat) ∧ Option.isSome r6.a = true) ∧
            ∃ x24 : Int, View.load V11 (Option.map (fun q => Addr.add q (Int.toNat x23.t151 * 1)) r6.a) = some (.int .u32 x24) ∧
            ((0 : Int) ≤ (IntKind.i64.wrap (x23.t151 + x4.t13)) ∧ ((IntKind.i64.wrap (x23.t151 + x4.t13)) : Int) < (Int.toNat (IntKind.i64.wrap ((p0.len : Int) + 1)) : Nat)) ∧
            ∃ x25 : Int, x23.o55[0 + Int.toNat (IntKind.i64.wrap (x23.t151 + x4.t13)) * 1]? = some (.int .u32 x25) ∧
            ((0 : Int) ≤ (IntKind.i64.wrap (x23.t151 + x4.t13)) ∧ ((IntKind.i64.wrap (x23.t151 + x4.t13)) : Int) < (Int.toNat (IntKind.i64.wrap ((p0.len : Int) + 1)) : Nat)) ∧
            0 + Int.toNat (IntKind.i64.wrap (x23.t151 + x4.t13)) * 1 + 1 ≤ List.length x23.o55 ∧
            ∃ x26 : L_nat_div_3, ((SV.val (.int .i64 (p1.len : Int)) = SV.val (.int .i64 (p1.len : Int)) ∧ SV.val (.int .i64 r5) = SV.val (.int .i64 r5) ∧ SV.val (r6.v) = SV.val (r6.v) ∧ SV.osl 55 0 (Int.toNat (IntKind.i64.wrap ((p0.len : Int) + 1))) (Int.toNat (IntKind.i64.wrap ((p0.len : Int) + 1))) = SV.osl 55 0 (Int.toNat (IntKind.i64.wrap ((p0.len : Int) + 1))) (Int.toNat (IntKind.i64.wrap ((p0.len : Int) + 1))) ∧ SV.osl 65 0 (Int.toNat (IntKind.i64.wrap (((Int.toNat (IntKind.i64.wrap ((p0.len : Int) + 1)) : Nat) : Int) - (p1.len : Int)))) (Int.toNat (IntKind.i64.wrap (((Int.toNat (IntKind.i64.wrap ((p0.len : Int) + 1)) : Nat) : Int) - (p1.len : Int)))) = SV.osl 65 0 (Int.toNat (IntKind.i64.wrap (((Int.toNat (IntKind.i64.wrap ((p0.len : Int) + 1)) : Nat) : Int) - (p1.len : Int)))) (Int.toNat (IntKind.i64.wrap (((Int.toNat (IntKind.i64.wrap ((p0.len : Int) + 1)) : Nat) : Int) - (p1.len : Int)))) ∧ SV.val (.int .i64 x4.t13) = SV.val (.int .i64 x4.t13) ∧ SV.val (.int .u64 (IntKind.u64.wrap (x9.t15 - 1))) = SV.val (.int .u64 (IntKind.u64.wrap (x9.t15 - 1))) ∧ SV.val (.int .u64 (Int.fdiv (IntKind.u64.wrap (x23.t17 + (IntKind.u64.wrap ((IntKind.u64.wrap x25) + (IntKind.u64.wrap x24))))) (2 ^ (min (Int.toNat 32) (IntKind.u64.bits))))) = SV.val (.int .u64 x26.t17) ∧ SV.val (r6.v) = SV.val (r6.v) ∧ SV.val (.int .i64 (r6.len : Int)) = SV.val (.int .i64 (r6.len : Int)) ∧ SV.val (.int .i64 (IntKind.i64.wrap (x23.t151 + 1))) = SV.val (.int .i64 x26.t151) ∧ True) ∧ ((some (⟨142, .dyn (List.set x23.o55 (0 + Int.toNat (IntKind.i64.wrap (x23.t151 + x4.t13)) * 1) (.int .u32 (IntKind.u32.wrap (IntKind.u64.wrap (x23.t17 + (IntKind.u64.wrap ((IntKind.u64.wrap x25) + (IntKind.u64.wrap x24))))))))⟩) : Option OB) = some (⟨142, .dyn x26.o55⟩) ∧ (some (⟨142, .dyn x23.o65⟩) : Option OB) = some (⟨142, .dyn x26.o65⟩) ∧ True)) ∧ I_nat_div_3 (C_nat_div_3.mk r5 r6 x4.t13 (IntKind.u64.wrap (x9.t15 - 1)) r6 (r6.len : Int)) x26 V11 ∧ mu_nat_div_3 (C_nat_div_3.mk r5 r6 x4.t13 (IntKind.u64.wrap (x9.t15 - 1)) r6 (r6.len : Int)) x26 V11 < mu_nat_div_3 (C_nat_div_3.mk r5 r6 x4.t13 (IntKind.u64.wrap (x9.t15 - 1)) r6 (r6.len : Int)) x23 V11) ∧
            ((decide ((x23.t151 : Int) < (r6.len : Int))) = false →
              ((0 : Int) ≤ (IntKind.i64.wrap (x4.t13 + (p1.len : Int))) ∧ ((IntKind.i64.wrap (x4.t13 + (p1.len : Int))) : Int) < (Int.toNat (IntKind.i64.wrap ((p0.len : Int) + 1)) : Nat)) ∧
          ∃ x27 : Int, x23.o55[0 + Int.toNat (IntKind.i64.wrap (x4.t13 + (p1.len : Int))) * 1]? = some (.int .u32 x27) ∧
          ((0 : Int) ≤ (IntKind.i64.wrap (x4.t13 + (p1.len : Int))) ∧ ((IntKind.i64.wrap (x4.t13 + (p1.len : Int))) : Int) < (Int.toNat (IntKind.i64.wrap ((p0.len : Int) + 1)) : Nat)) ∧
          0 + Int.toNat (IntKind.i64.wrap (x4.t13 + (p1.len : Int))) * 1 + 1 ≤ List.length x23.o55 ∧
          ((0 : Int) ≤ x4.t13 ∧ (x4.t13 : Int) < (Int.toNat (IntKind.i64.wrap (((Int.toNat (IntKind.i64.wrap ((p0.len : Int) + 1)) : Nat) : Int) - (p1.len : Int))) : Nat)) ∧
        0 + Int.toNat x4.t13 * 1 + 1 ≤ List.length x23.o65 ∧
        ∃ x28 : L_nat_div_0, ((SV.val (.int .i64 (p1.len : Int)) = SV.val (.int .i64 (p1.len : Int)) ∧ SV.val (.int .i64 r5) = SV.val (.int .i64 r5) ∧ SV.val (r6.v) = SV.val (r6.v) ∧ SV.osl 55 0 (Int.toNat (IntKind.i64.wrap ((p0.len : Int) + 1))) (Int.toNat (IntKind.i64.wrap ((p0.len : Int) + 1))) = SV.osl 55 0 (Int.toNat (IntKind.i64.wrap ((p0.len : Int) + 1))) (Int.toNat (IntKind.i64.wrap ((p0.len : Int) + 1))) ∧ SV.osl 65 0 (Int.toNat (IntKind.i64.wrap (((Int.toNat (IntKind.i64.wrap ((p0.len : Int) + 1)) : Nat) : Int) - (p1.len : Int)))) (Int.toNat (IntKind.i64.wrap (((Int.toNat (IntKind.i64.wrap ((p0.len : Int) + 1)) : Nat) : Int) - (p1.len : Int)))) = SV.osl 65 0 (Int.toNat (IntKind.i64.wrap (((Int.toNat (IntKind.i64.wrap ((p0.len : Int) + 1)) : Nat) : Int) - (p1.len : Int)))) (Int.toNat (IntKind.i64.wrap (((Int.toNat (IntKind.i64.wrap ((p0.len : Int) + 1)) : Nat) : Int) - (p1.len : Int)))) ∧ SV.val (.int .i64 (IntKind.i64.wrap (x4.t13 - 1))) = SV.val (.int .i64 x28.t13) ∧ True) ∧ ((some (⟨142, .dyn (List.set x23.o55 (0 + Int.toNat (IntKind.i64.wrap (x4.t13 + (p1.len : Int))) * 1) (.int .u32 (IntKind.u32.wrap (x27 + (IntKind.u32.wrap x23.t17)))))⟩) : Option OB) = some (⟨142, .dyn x28.o55⟩) ∧ (some (⟨142, .dyn (List.set x23.o65 (0 + Int.toNat x4.t13 * 1) (.int .u32 (IntKind.u32.wrap (IntKind.u64.wrap (x9.t15 - 1)))))⟩) : Option OB) = some (⟨142, .dyn x28.o65⟩) ∧ True)) ∧ I_nat_div_0 (C_nat_div_0.mk r5 r6) x28 V11 ∧ mu_nat_div_0 (C_nat_div_0.mk r5 r6) x28 V11 < mu_nat_div_0 (C_nat_div_0.mk r5 r6) x4 V7))) ∧
        (r8 = false →
          ((0 : Int) ≤ x4.t13 ∧ (x4.t13 : Int) < (Int.toNat (IntKind.i64.wrap (((Int.toNat (IntKind.i64.wrap ((p0.len : Int) + 1)) : Nat) : Int) - (p1.len : Int))) : Nat)) ∧
        0 + Int.toNat x4.t13 * 1 + 1 ≤ List.length x4.o65 ∧
        ∃ x29 : L_nat_div_0, ((SV.val (.int .i64 (p1.len : Int)) = SV.val (.int .i64 (p1.len : Int)) ∧ SV.val (.int .i64 r5) = SV.val (.int .i64 r5) ∧ SV.val (r6.v) = SV.val (r6.v) ∧ SV.osl 55 0 (Int.toNat (IntKind.i64.wrap ((p0.len : Int) + 1))) (Int.toNat (IntKind.i64.wrap ((p0.len : Int) + 1))) = SV.osl 55 0 (Int.toNat (IntKind.i64.wrap ((p0.len : Int) + 1))) (Int.toNat (IntKind.i64.wrap ((p0.len : Int) + 1))) ∧ SV.osl 65 0 (Int.toNat (IntKind.i64.wrap (((Int.toNat (IntKind.i64.wrap ((p0.len : Int) + 1)) : Nat) : Int) - (p1.len : Int)))) (Int.toNat (IntKind.i64.wrap (((Int.toNat (IntKind.i64.wrap ((p0.len : Int) + 1)) : Nat) : Int) - (p1.len : Int)))) = SV.osl 65 0 (Int.toNat (IntKind.i64.wrap (((Int.toNat (IntKind.i64.wrap ((p0.len : Int) + 1)) : Nat) : Int) - (p1.len : Int)))) (Int.toNat (IntKind.i64.wrap (((Int.toNat (IntKind.i64.wrap ((p0.len : Int) + 1)) : Nat) : Int) - (p1.len : Int)))) ∧ SV.val (.int .i64 (IntKind.i64.wrap (x4.t13 - 1))) = SV.val (.int .i64 x29.t13) ∧ True) ∧ ((some (⟨142, .dyn l2⟩) : Option OB) = some (⟨142, .dyn x29.o55⟩) ∧ (some (⟨142, .dyn (List.set x4.o65 (0 + Int.toNat x4.t13 * 1) (.int .u32 (IntKind.u32.wrap x9.t15)))⟩) : Option OB) = some (⟨142, .dyn x29.o65⟩) ∧ True)) ∧ I_nat_div_0 (C_nat_div_0.mk r5 r6) x29 V10 ∧ mu_nat_div_0 (C_nat_div_0.mk r5 r6) x29 V10 < mu_nat_div_0 (C_nat_div_0.mk r5 r6) x4 V7))) ∧
      ((decide ((x4.t13 : Int) ≥ 0)) = false →
        ∀ (b1 : Nat) (V12 : View), View.le V7 V12 → V12 b1 = some (List.toArray x4.o65) →
    ∀ (b2 : Nat) (V13 : View), View.le V12 V13 → V13 b2 = some (List.toArray x4.o55) →
    ((0 : Int) ≤ 0 ∧ (0 : Int) ≤ (p1.len : Int) ∧ ((p1.len : Int) : Int) ≤ ((Int.toNat (IntKind.i64.wrap ((p0.len : Int) + 1))) : Nat)) ∧
    CallV Try.prog 147 #[(Sl.mk (some (Addr.mk b1 0 none)) (Int.toNat (IntKind.i64.wrap (((Int.toNat (IntKind.i64.wrap ((p0.len : Int) + 1)) : Nat) : Int) - (p1.len : Int)))) (Int.toNat (IntKind.i64.wrap (((Int.toNat (IntKind.i64.wrap ((p0.len : Int) + 1)) : Nat) : Int) - (p1.len : Int))))).v] V13 fun v V14 => ∃ r9 : Sl, v = r9.v ∧ -- num.trim
    CallV Try.prog 147 #[(Sl.mk (if (Int.toNat (IntKind.i64.wrap ((p0.len : Int) + 1))) = Int.toNat 0 then (some (Addr.mk b2 0 none)) else Option.map (fun q => Addr.add q (Int.toNat 0 * 1)) (some (Addr.mk b2 0 none))) (Int.toNat (p1.len : Int) - Int.toNat 0) ((Int.toNat (IntKind.i64.wrap ((p0.len : Int) + 1))) - Int.toNat 0)).v] V14 fun v V15 => ∃ r10 : Sl, v = r10.v ∧ -- num.trim
    CallV Try.prog 162 #[r10.v, .int .i64 r5] V15 fun v V16 => ∃ r11 : Sl, v = r11.v ∧ -- (num.nat).shr
    R (.tuple #[r9.v, r11.v]) V16)))) from (CallV.mono h (fun _ _ _ ⟨r1, h74, h73⟩ => ⟨r1, h74, ⟨fun h72 => (h73.1 h72), fun h72 => ⟨fun h71 => ⟨((h73.2 h72).1 h71).1, (match ((h73.2 h72).1 h71).2 with | ⟨x1, h6, h5⟩ => ⟨x1, h6, (CallV.mono h5 (fun _ _ _ ⟨r2, r3, h4, h3⟩ => ⟨r2, r3, h4, (CallV.mono h3 (fun _ _ _ ⟨r4, h2, h1⟩ => ⟨r4, h2, h1⟩))⟩))⟩)⟩, fun h71 => ⟨((h73.2 h72).2 h71).1, (match ((h73.2 h72).2 h71).2 with | ⟨x2, h70, h69⟩ => ⟨x2, h70, (CallV.mono h69 (fun _ _ _ ⟨r5, h68, h67⟩ => ⟨r5, h68, (CallV.mono h67 (fun _ _ _ ⟨r6, h66, h65⟩ => ⟨r6, h66, ⟨h65.1, (CallV.mono h65.2 (fun _ _ _ ⟨r7, h64, h63⟩ => ⟨r7, h64, (match h63 with | ⟨l1, h58, h59, h60, h61, h62, h57⟩ => ⟨l1, h58, h59, h60, h61, h62, ⟨h57.1, ⟨⟨(L_nat_div_0.mk (IntKind.i64.wrap (((Int.toNat (IntKind.i64.wrap (((Int.toNat (IntKind.i64.wrap ((p0.len : Int) + 1)) : Nat) : Int) - (p1.len : Int))) : Nat) : Int) - 1)) (setL ((List.replicate (Int.toNat (IntKind.i64.wrap ((p0.len : Int) + 1))) [Value.int .u32 0]).flatten) 0 l1) ((List.replicate (Int.toNat (IntKind.i64.wrap (((Int.toNat (IntKind.i64.wrap ((p0.len : Int) + 1)) : Nat) : Int) - (p1.len : Int)))) [Value.int .u32 0]).flatten)), ⟨⟨rfl, rfl, rfl, rfl, rfl, rfl, trivial⟩, ⟨rfl, rfl, trivial⟩⟩, h57.2.1⟩, fun x4 V7 h55 h56 => ⟨fun h54 => ⟨((h57.2.2 x4 V7 h55 h56).1 h54).1, (match ((h57.2.2 x4 V7 h55 h56).1 h54).2 with | ⟨x5, h43, h42⟩ => ⟨x5, h43, ⟨h42.1, (match h42.2 with | ⟨x6, h41, h40⟩ => ⟨x6, h41, ⟨h40.1, (match h40.2 with | ⟨x7, h39, h38⟩ => ⟨x7, h39, ⟨h38.1, ⟨h38.2.1, (match h38.2.2 with | ⟨x8, h37, h36⟩ => ⟨x8, h37, ⟨h36.1, ⟨⟨⟨(L_nat_div_2.mk (IntKind.u64.wrap (Int.tdiv (IntKind.u64.wrap (BitVec.toNat ((BitVec.ofInt IntKind.u64.bits (IntKind.u64.wrap ((IntKind.u64.wrap x5) * 2 ^ (min (Int.toNat 32) (IntKind.u64.bits))))) ||| (BitVec.ofInt IntKind.u64.bits (IntKind.u64.wrap x6))))) (IntKind.u64.wrap x7))) (Int.tmod (IntKind.u64.wrap (BitVec.toNat ((BitVec.ofInt IntKind.u64.bits (IntKind.u64.wrap ((IntKind.u64.wrap x5) * 2 ^ (min (Int.toNat 32) (IntKind.u64.bits))))) ||| (BitVec.ofInt IntKind.u64.bits (IntKind.u64.wrap x6))))) (IntKind.u64.wrap x8))), ⟨⟨rfl, rfl, rfl, rfl, rfl, rfl, rfl, rfl, trivial⟩, ⟨rfl, rfl, trivial⟩⟩, h36.2.1.1⟩, fun x11 V9 h20 h21 => ⟨fun h19 => ⟨fun h10 => ⟨(((h36.2.1.2 x11 V9 h20 h21).1 h19).1 h10).1, (match (((h36.2.1.2 x11 V9 h20 h21).1 h19).1 h10).2 with | ⟨x12, h9, h8⟩ => ⟨x12, h9, ⟨fun h7 => ⟨(L_nat_div_1.mk (IntKind.u64.wrap (x11.t15 - 1))), ⟨⟨rfl, rfl, rfl, rfl, rfl, rfl, rfl, trivial⟩, ⟨rfl, rfl, trivial⟩⟩, (h8.1 h7)⟩, fun h7 => ⟨(L_nat_div_2.mk (IntKind.u64.wrap (x11.t15 - 1)) (IntKind.u64.wrap (x11.t16 + (IntKind.u64.wrap x12)))), ⟨⟨rfl, rfl, rfl, rfl, rfl, rfl, rfl, rfl, trivial⟩, ⟨rfl, rfl, trivial⟩⟩, (h8.2 h7).1, (h8.2 h7).2⟩⟩⟩)⟩, fun h10 => ⟨(L_nat_div_1.mk x11.t15), ⟨⟨rfl, rfl, rfl, rfl, rfl, rfl, rfl, trivial⟩, ⟨rfl, rfl, trivial⟩⟩, (((h36.2.1.2 x11 V9 h20 h21).1 h19).2 h10)⟩⟩, fun h19 => ⟨((h36.2.1.2 x11 V9 h20 h21).2 h19).1, (match ((h36.2.1.2 x11 V9 h20 h21).2 h19).2 with | ⟨x16, h18, h17⟩ => ⟨x16, h18, ⟨h17.1, (match h17.2 with | ⟨x17, h16, h15⟩ => ⟨x17, h16, ⟨fun h14 => ⟨(h15.1 h14).1, (match (h15.1 h14).2 with | ⟨x18, h13, h12⟩ => ⟨x18, h13, ⟨fun h11 => ⟨(L_nat_div_1.mk (IntKind.u64.wrap (x11.t15 - 1))), ⟨⟨rfl, rfl, rfl, rfl, rfl, rfl, rfl, trivial⟩, ⟨rfl, rfl, trivial⟩⟩, (h12.1 h11)⟩, fun h11 => ⟨(L_nat_div_2.mk (IntKind.u64.wrap (x11.t15 - 1)) (IntKind.u64.wrap (x11.t16 + (IntKind.u64.wrap x18)))), ⟨⟨rfl, rfl, rfl, rfl, rfl, rfl, rfl, rfl, trivial⟩, ⟨rfl, rfl, trivial⟩⟩, (h12.2 h11).1, (h12.2 h11).2⟩⟩⟩)⟩, fun h14 => ⟨(L_nat_div_1.mk x11.t15), ⟨⟨rfl, rfl, rfl, rfl, rfl, rfl, rfl, trivial⟩, ⟨rfl, rfl, trivial⟩⟩, (h15.2 h14)⟩⟩⟩)⟩⟩)⟩⟩⟩, fun x9 V8 h34 h35 => (CallD.mono (h36.2.2 x9 V8 h34 h35) (fun _ l2 _ _ ⟨r8, h33, h32⟩ => ⟨r8, h33, ⟨fun h31 => ⟨⟨(L_nat_div_3.mk 0 0 l2 x4.o65), ⟨⟨rfl, rfl, rfl, rfl, rfl, rfl, rfl, rfl, rfl, rfl, rfl, trivial⟩, ⟨rfl, rfl, trivial⟩⟩, (h32.1 h31).1⟩, fun x23 V11 h29 h30 => ⟨fun h28 => ⟨(((h32.1 h31).2 x23 V11 h29 h30).1 h28).1, (match (((h32.1 h31).2 x23 V11 h29 h30).1 h28).2 with | ⟨x24, h25, h24⟩ => ⟨x24, h25, ⟨h24.1, (match h24.2 with | ⟨x25, h23, h22⟩ => ⟨x25, h23, ⟨h22.1, ⟨h22.2.1, ⟨(L_nat_div_3.mk (Int.fdiv (IntKind.u64.wrap (x23.t17 + (IntKind.u64.wrap ((IntKind.u64.wrap x25) + (IntKind.u64.wrap x24))))) (2 ^ (min (Int.toNat 32) (IntKind.u64.bits)))) (IntKind.i64.wrap (x23.t151 + 1)) (List.set x23.o55 (0 + Int.toNat (IntKind.i64.wrap (x23.t151 + x4.t13)) * 1) (.int .u32 (IntKind.u32.wrap (IntKind.u64.wrap (x23.t17 + (IntKind.u64.wrap ((IntKind.u64.wrap x25) + (IntKind.u64.wrap x24)))))))) x23.o65), ⟨⟨rfl, rfl, rfl, rfl, rfl, rfl, rfl, rfl, rfl, rfl, rfl, trivial⟩, ⟨rfl, rfl, trivial⟩⟩, h22.2.2.1, h22.2.2.2⟩⟩⟩⟩)⟩⟩)⟩, fun h28 => ⟨(((h32.1 h31).2 x23 V11 h29 h30).2 h28).1, (match (((h32.1 h31).2 x23 V11 h29 h30).2 h28).2 with | ⟨x27, h27, h26⟩ => ⟨x27, h27, ⟨h26.1, ⟨h26.2.1, ⟨h26.2.2.1, ⟨h26.2.2.2.1, ⟨(L_nat_div_0.mk (IntKind.i64.wrap (x4.t13 - 1)) (List.set x23.o55 (0 + Int.toNat (IntKind.i64.wrap (x4.t13 + (p1.len : Int))) * 1) (.int .u32 (IntKind.u32.wrap (x27 + (IntKind.u32.wrap x23.t17))))) (List.set x23.o65 (0 + Int.toNat x4.t13 * 1) (.int .u32 (IntKind.u32.wrap (IntKind.u64.wrap (x9.t15 - 1)))))), ⟨⟨rfl, rfl, rfl, rfl, rfl, rfl, trivial⟩, ⟨rfl, rfl, trivial⟩⟩, h26.2.2.2.2.1, h26.2.2.2.2.2⟩⟩⟩⟩⟩⟩)⟩⟩⟩, fun h31 => ⟨(h32.2 h31).1, ⟨(h32.2 h31).2.1, ⟨(L_nat_div_0.mk (IntKind.i64.wrap (x4.t13 - 1)) l2 (List.set x4.o65 (0 + Int.toNat x4.t13 * 1) (.int .u32 (IntKind.u32.wrap x9.t15)))), ⟨⟨rfl, rfl, rfl, rfl, rfl, rfl, trivial⟩, ⟨rfl, rfl, trivial⟩⟩, (h32.2 h31).2.2.1, (h32.2 h31).2.2.2⟩⟩⟩⟩⟩))⟩⟩⟩)⟩⟩⟩)⟩⟩)⟩⟩)⟩, fun h54 => (fun b1 V12 h52 h53 => (fun b2 V13 h50 h51 => ⟨((((h57.2.2 x4 V7 h55 h56).2 h54) b1 V12 h52 h53) b2 V13 h50 h51).1, (CallV.mono ((((h57.2.2 x4 V7 h55 h56).2 h54) b1 V12 h52 h53) b2 V13 h50 h51).2 (fun _ _ _ ⟨r9, h49, h48⟩ => ⟨r9, h49, (CallV.mono h48 (fun _ _ _ ⟨r10, h47, h46⟩ => ⟨r10, h47, (CallV.mono h46 (fun _ _ _ ⟨r11, h45, h44⟩ => ⟨r11, h45, h44⟩))⟩))⟩))⟩))⟩⟩⟩⟩)⟩))⟩⟩))⟩))⟩)⟩⟩⟩⟩))))

end Go.Proofs.Ytcapadojlaojkaa

namespace Go.Proofs.Ytcapadojlaojkaa
open Go Go.Vc Go.Proofs

theorem div_norm {b sh : Nat} (hb : b ≠ 0) (hsh : sh = 32 - bl ((dig b).getD (wn b - 1) 0)) :
    sh ≤ 31 ∧ wn (b * 2 ^ sh) = wn b ∧ 2147483648 * 4294967296 ^ (wn b - 1) ≤ b * 2 ^ sh := by
  obtain ⟨h1, h2, h3⟩ := top_bounds hb
  have hlt := (WB_dig b).getD (wn b - 1)
  have hn : wn b ≠ 0 := fun e => hb (wn_eq_zero.1 e)
  obtain ⟨k, hk⟩ : ∃ k, wn b = k + 1 := ⟨wn b - 1, by omega⟩
  rw [hk, Nat.add_sub_cancel] at h1 h2 h3 hlt hsh
  rw [hk, Nat.add_sub_cancel]
  generalize (dig b).getD k 0 = t at *
  have a1 := lt_bl t
  have a2 := bl_le h3
  have a3 := bl_pos h3
  have a4 : bl t ≤ 32 := by
    have := (Nat.pow_lt_pow_iff_right (a := 2) (n := bl t - 1) (m := 32) (by omega)).1 (by omega)
    omega
  have e1 : 2 ^ (bl t - 1) * 2 ^ sh = 2147483648 := by rw [← Nat.pow_add, show bl t - 1 + sh = 31 by omega]
  have e2 : 2 ^ bl t * 2 ^ sh = 4294967296 := by rw [← Nat.pow_add, show bl t + sh = 32 by omega]
  have hP : 0 < 4294967296 ^ k := Nat.pow_pos (by omega)
  have lo : 2147483648 * 4294967296 ^ k ≤ b * 2 ^ sh := by
    rw [← e1]
    have h4 := Nat.mul_le_mul_right (4294967296 ^ k * 2 ^ sh) a2
    have h5 := Nat.mul_le_mul_right (2 ^ sh) h1
    have e3 : 2 ^ (bl t - 1) * 2 ^ sh * 4294967296 ^ k = 2 ^ (bl t - 1) * (4294967296 ^ k * 2 ^ sh) := by grind
    have e4 : t * 4294967296 ^ k * 2 ^ sh = t * (4294967296 ^ k * 2 ^ sh) := by grind
    omega
  have hi : b * 2 ^ sh < 4294967296 ^ (k + 1) := by
    have h4 := Nat.mul_le_mul_right (4294967296 ^ k * 2 ^ sh) (Nat.succ_le_of_lt a1)
    have h5 := Nat.mul_lt_mul_of_pos_right h2 (Nat.two_pow_pos sh)
    have e3 : 4294967296 ^ (k + 1) = 2 ^ bl t * (4294967296 ^ k * 2 ^ sh) := by rw [Nat.pow_succ, ← e2]; grind
    have e4 : (t + 1) * 4294967296 ^ k * 2 ^ sh = (t + 1) * (4294967296 ^ k * 2 ^ sh) := by grind
    simp only [Nat.succ_eq_add_one] at h4
    omega
  refine ⟨by omega, ?_, lo⟩
  have h6 := wn_le_of_lt hi
  rcases Nat.lt_or_ge (wn (b * 2 ^ sh)) (k + 1) with h7 | h7
  · exfalso
    have h8 := lt_wn (b * 2 ^ sh)
    have h9 : 4294967296 ^ wn (b * 2 ^ sh) ≤ 4294967296 ^ k := Nat.pow_le_pow_right (by omega) (by omega)
    omega
  · omega

theorem Words.pre {V : View} {s : Sl} {l : List Nat} (h : Words V s l) {k c : Nat} (hk : k ≤ l.length) (hc : k ≤ c) : Words V (Sl.mk s.a k c) (l.take k) := by
  refine ⟨fun i d hi => ?_, by simp; omega, hc, h.wb.take k⟩
  have hi' : i < k := by
    rcases Nat.lt_or_ge i k with h | h
    · exact h
    · rw [List.getElem?_eq_none (by simp; omega)] at hi; simp at hi
  rw [List.getElem?_take_of_lt hi'] at hi
  exact h.load i d hi
theorem wv_inj {a b : List Nat} (h : wv a = wv b) : a = b := by
  have := congrArg (List.map fun v => match v with | Value.int _ n => n.toNat | _ => 0) h
  simpa [wv, Function.comp_def] using this
theorem Words.has {V : View} {s : Sl} {l : List Nat} (h : Words V s l) : View.has V s.a (wv l) := by
  intro i v hi
  simp only [wv, List.getElem?_map, Option.map_eq_some_iff] at hi
  obtain ⟨d, hd, rfl⟩ := hi
  exact h.load i d hd

/-- What holds between the words of the quotient. -/
structure DivI (X vN n m j : Nat) (u qd : List Nat) : Prop where
  jl : j ≤ m - n
  wu : WB u
  lu : u.length = m
  wq : WB qd
  lq : qd.length = m - n
  eq : X = seg u 0 (j + n) + vN * (4294967296 ^ j * seg qd j (m - n - j))
  lt : seg u j n < vN

/-- One word more. -/
theorem DivI.next {X vN n m j R g : Nat} {u u' qd : List Nat} (hnm : n ≤ m) (h : DivI X vN n m (j + 1) u qd) (hR : seg u j (n + 1) = R + g * vN) (hlt : R < vN) (hg : g < 4294967296)
    (wu' : WB u') (lu' : u'.length = m) (lo : seg u' 0 j = seg u 0 j) (hi : seg u' j n = R) : DivI X vN n m j u' (qd.set j g) := by
  have hj := h.jl
  have hq := h.lq
  refine ⟨by omega, wu', lu', h.wq.set hg, by simpa using hq, ?_, by rw [hi]; exact hlt⟩
  rw [h.eq, show m - n - j = 1 + (m - n - (j + 1)) by omega, seg_split _ j 1, seg_set_out (j := j + 1) (by omega), seg_succ, seg_zero, Nat.add_zero, getD_set, if_pos ⟨rfl, by omega⟩, Nat.pow_zero, Nat.mul_one, Nat.zero_add, Nat.pow_one,
    show j + 1 + n = j + (n + 1) by omega, seg_split u 0 j (n + 1), seg_split u' 0 j n, lo, Nat.zero_add, hi, hR, Nat.pow_succ]
  grind

theorem seg_ext {l l' : List Nat} {j k : Nat} (h : ∀ i, j ≤ i → i < j + k → l'.getD i 0 = l.getD i 0) : seg l' j k = seg l j k :=
  ws_congr fun i hi => h _ (by omega) (by omega)

end Go.Proofs.Ytcapadojlaojkaa
