/- Part of the proof; it has the parts FGcd. -/
import Derived.Test.YtcapadojlaojkaaFNat3
set_option maxRecDepth 100000
set_option maxHeartbeats 4000000
namespace Go.Proofs.Ytcapadojlaojkaa
open Go Go.Vc Go.Proofs

structure L_nat_gcd_0 where
  t0 : Sl
  t1 : Sl
/-- (waveport/num.nat).gcd -/
theorem nat_gcd_vc (p0 : Sl) (p1 : Sl) (V : View) (R : Value → View → Prop) (I_nat_gcd_0 : Unit → L_nat_gcd_0 → View → Prop) (mu_nat_gcd_0 : Unit → L_nat_gcd_0 → View → Nat)
  (h :
    I_nat_gcd_0 () (L_nat_gcd_0.mk p0 p1) V ∧
    (∀ (x2 : L_nat_gcd_0) (V1 : View), View.le V V1 → I_nat_gcd_0 () x2 V1 →
      ((decide (((x2.t1.len : Int) : Int) > 0)) = true →
        CallV Try.prog 134 #[x2.t0.v, x2.t1.v] V1 fun v V2 => ∃ (r1 : Sl) (r2 : Sl), v = .tuple #[r1.v, r2.v] ∧ -- (num.nat).div
      I_nat_gcd_0 () (L_nat_gcd_0.mk x2.t1 r2) V2 ∧ mu_nat_gcd_0 () (L_nat_gcd_0.mk x2.t1 r2) V2 < mu_nat_gcd_0 () x2 V1) ∧
      ((decide (((x2.t1.len : Int) : Int) > 0)) = false →
        R (x2.t0.v) V1))) :
  CallV Try.prog 132 #[p0.v, p1.v] V R :=
  calls_of_vc (Shp := Shp) hmixed Try.func132 (c := Try.f132.body.getD .skip) (args := [p0.v, p1.v]) (by kernel_rfl)
    (.seq (.reg [⟨4, 2, false⟩]) (.seq (.block (.loop Unit L_nat_gcd_0 (fun _ => ()) (fun c x => { tm := spT 19 0 [(0, .val (x.t0.v)), (1, .val (x.t1.v))], own := spO 19 0 [] }) I_nat_gcd_0 mu_nat_gcd_0 (.seq (.seq (.reg [⟨7, 2, false⟩, ⟨8, 0, false⟩, ⟨9, 0, false⟩]) (.cond .leaf .leaf)) (.block (.seq (.reg [⟨11, 2, false⟩, ⟨12, 2, false⟩, ⟨13, 10, false⟩, ⟨10, 2, false⟩, ⟨14, 0, false⟩, ⟨15, 0, false⟩, ⟨5, 2, false⟩, ⟨6, 2, false⟩]) (.reg [⟨16, 2, false⟩, ⟨17, 2, false⟩, ⟨0, 2, false⟩, ⟨1, 2, false⟩])))))) (.seq (.reg [⟨18, 2, false⟩, ⟨4, 2, false⟩]) .leaf)))
    (Eq.mpr (by kernel_rfl) (show (∃ x1 : L_nat_gcd_0, ((SV.val (p0.v) = SV.val (x1.t0.v) ∧ SV.val (p1.v) = SV.val (x1.t1.v) ∧ True) ∧ (True)) ∧ I_nat_gcd_0 () x1 V) ∧
    (∀ (x2 : L_nat_gcd_0) (V1 : View), View.le V V1 → I_nat_gcd_0 () x2 V1 →
      ((decide (((x2.t1.len : Int) : Int) > 0)) = true →
        CallV Try.prog 134 #[x2.t0.v, x2.t1.v] V1 fun v V2 => ∃ (r1 : Sl) (r2 : Sl), v = .tuple #[r1.v, r2.v] ∧ -- (num.nat).div
      ∃ x3 : L_nat_gcd_0, ((SV.val (x2.t1.v) = SV.val (x3.t0.v) ∧ SV.val (r2.v) = SV.val (x3.t1.v) ∧ True) ∧ (True)) ∧ I_nat_gcd_0 () x3 V2 ∧ mu_nat_gcd_0 () x3 V2 < mu_nat_gcd_0 () x2 V1) ∧
      ((decide (((x2.t1.len : Int) : Int) > 0)) = false →
        R (x2.t0.v) V1)) from ⟨⟨(L_nat_gcd_0.mk p0 p1), ⟨⟨rfl, rfl, trivial⟩, trivial⟩, h.1⟩, fun x2 V1 h4 h5 => ⟨fun h3 => (CallV.mono ((h.2 x2 V1 h4 h5).1 h3) (fun _ _ _ ⟨r1, r2, h2, h1⟩ => ⟨r1, r2, h2, ⟨(L_nat_gcd_0.mk x2.t1 r2), ⟨⟨rfl, rfl, trivial⟩, trivial⟩, h1.1, h1.2⟩⟩)), fun h3 => ((h.2 x2 V1 h4 h5).2 h3)⟩⟩))

end Go.Proofs.Ytcapadojlaojkaa
