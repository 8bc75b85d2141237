/- Part of the proof; it has the parts FGcd FNum1 VQ VNum CNum1 FTr1 FStage VList CTr1 COpen FShf. -/
import Derived.Test.YtcapadojlaojkaaPartD
import Derived.Deep.Slices
set_option maxRecDepth 100000
set_option maxHeartbeats 4000000
namespace Go.Proofs.Ytcapadojlaojkaa
open Go Go.Vc Go.Proofs

structure L_nat_gcd_0 where
  t0 : Sl
  t1 : Sl
/-- (waveport/num.nat).gcd -/
theorem nat_gcd_vc (p0 : Sl) (p1 : Sl) (V : View) (R : Value → View → Prop) (I_nat_gcd_0 : Unit → L_nat_gcd_0 → View → Prop) (mu_nat_gcd_0 : Unit → L_nat_gcd_0 → View → Nat)
  (h :
    I_nat_gcd_0 () (L_nat_gcd_0.mk p0 p1) V ∧
    (∀ (x2 : L_nat_gcd_0) (V1 : View), View.le V V1 → I_nat_gcd_0 () x2 V1 →
      ((decide (((x2.t1.len : Int) : Int) > 0)) = true →
        CallV Try.prog 134 #[x2.t0.v, x2.t1.v] V1 fun v V2 => ∃ (r1 : Sl) (r2 : Sl), v = .tuple #[r1.v, r2.v] ∧ -- (num.nat).div
      I_nat_gcd_0 () (L_nat_gcd_0.mk x2.t1 r2) V2 ∧ mu_nat_gcd_0 () (L_nat_gcd_0.mk x2.t1 r2) V2 < mu_nat_gcd_0 () x2 V1) ∧
      ((decide (((x2.t1.len : Int) : Int) > 0)) = false →
        R (x2.t0.v) V1))) :
  CallV Try.prog 132 #[p0.v, p1.v] V R :=
  calls_of_vc (Shp := Shp) hmixed Try.func132 (c := Try.f132.body.getD .skip) (args := [p0.v, p1.v]) (by kernel_rfl)
    (.seq (.reg [⟨4, 2, false⟩]) (.seq (.block (.loop Unit L_nat_gcd_0 (fun _ => ()) (fun c x => { tm := spT 19 0 [(0, .val (x.t0.v)), (1, .val (x.t1.v))], own := spO 19 0 [] }) I_nat_gcd_0 mu_nat_gcd_0 (.seq (.seq (.reg [⟨7, 2, false⟩, ⟨8, 0, false⟩, ⟨9, 0, false⟩]) (.cond .leaf .leaf)) (.block (.seq (.reg [⟨11, 2, false⟩, ⟨12, 2, false⟩, ⟨13, 10, false⟩, ⟨10, 2, false⟩, ⟨14, 0, false⟩, ⟨15, 0, false⟩, ⟨5, 2, false⟩, ⟨6, 2, false⟩]) (.reg [⟨16, 2, false⟩, ⟨17, 2, false⟩, ⟨0, 2, false⟩, ⟨1, 2, false⟩])))))) (.seq (.reg [⟨18, 2, false⟩, ⟨4, 2, false⟩]) .leaf)))
    (Eq.mpr (by kernel_rfl) (show (∃ x1 : L_nat_gcd_0, ((SV.val (p0.v) = SV.val (x1.t0.v) ∧ SV.val (p1.v) = SV.val (x1.t1.v) ∧ True) ∧ (True)) ∧ I_nat_gcd_0 () x1 V) ∧
    (∀ (x2 : L_nat_gcd_0) (V1 : View), View.le V V1 → I_nat_gcd_0 () x2 V1 →
      ((decide (((x2.t1.len : Int) : Int) > 0)) = true →
        CallV Try.prog 134 #[x2.t0.v, x2.t1.v] V1 fun v V2 => ∃ (r1 : Sl) (r2 : Sl), v = .tuple #[r1.v, r2.v] ∧ -- (num.nat).div
      ∃ x3 : L_nat_gcd_0, ((SV.val (x2.t1.v) = SV.val (x3.t0.v) ∧ SV.val (r2.v) = SV.val (x3.t1.v) ∧ True) ∧ (True)) ∧ I_nat_gcd_0 () x3 V2 ∧ mu_nat_gcd_0 () x3 V2 < mu_nat_gcd_0 () x2 V1) ∧
      ((decide (((x2.t1.len : Int) : Int) > 0)) = false →
        R (x2.t0.v) V1)) from ⟨⟨(L_nat_gcd_0.mk p0 p1), ⟨⟨rfl, rfl, trivial⟩, trivial⟩, h.1⟩, fun x2 V1 h4 h5 => ⟨fun h3 => (CallV.mono ((h.2 x2 V1 h4 h5).1 h3) (fun _ _ _ ⟨r1, r2, h2, h1⟩ => ⟨r1, r2, h2, ⟨(L_nat_gcd_0.mk x2.t1 r2), ⟨⟨rfl, rfl, trivial⟩, trivial⟩, h1.1, h1.2⟩⟩)), fun h3 => ((h.2 x2 V1 h4 h5).2 h3)⟩⟩))

end Go.Proofs.Ytcapadojlaojkaa

set_option maxRecDepth 100000
set_option maxHeartbeats 4000000
namespace Go.Proofs.Ytcapadojlaojkaa
open Go Go.Vc Go.Proofs

/-- waveport/num.wholeOf -/
theorem num_wholeOf_vc (p0 : Bool) (p1 : Sl) (V : View) (R : Value → View → Prop) 
  (h :
    (p0 = true →
    R ((WhV.mk (decide (((p1.len : Int) : Int) > 0)) p1).val) V) ∧
    (p0 = false →
    R ((WhV.mk false p1).val) V)) :
  CallV Try.prog 131 #[.bool p0, p1.v] V R :=
  calls_of_vc (Shp := Shp) hmixed Try.func131 (c := Try.f131.body.getD .skip) (args := [.bool p0, p1.v]) (by kernel_rfl)
    (.seq (.reg [⟨4, 3, false⟩]) (.seq (.reg [⟨5, 2, false⟩, ⟨6, 2, true⟩, ⟨7, 2, false⟩, ⟨8, 0, false⟩, ⟨9, 0, false⟩, ⟨10, 2, false⟩, ⟨11, 2, false⟩, ⟨12, 0, false⟩, ⟨4, 6, false⟩]) .leaf))
    (Eq.mpr (by kernel_rfl) h)

/-- waveport/num.of64 -/
theorem num_of64_vc (p0 : Int) (V : View) (R : Value → View → Prop) 
  (h :
    ((decide ((p0 : Int) < 0)) = true →
      CallV Try.prog 130 #[.int .u64 (IntKind.u64.wrap (0 - (IntKind.u64.wrap p0)))] V fun v V1 => ∃ r1 : Sl, v = r1.v ∧ -- num.natOf
      R ((WhV.mk true r1).val) V1) ∧
    ((decide ((p0 : Int) < 0)) = false →
      CallV Try.prog 130 #[.int .u64 (IntKind.u64.wrap p0)] V fun v V2 => ∃ r2 : Sl, v = r2.v ∧ -- num.natOf
    R ((WhV.mk false r2).val) V2)) :
  CallV Try.prog 92 #[.int .i64 p0] V R :=
  calls_of_vc (Shp := Shp) hmixed Try.func92 (c := Try.f92.body.getD .skip) (args := [.int .i64 p0]) (by kernel_rfl)
    (.seq (.reg [⟨2, 3, false⟩]) (.seq (.seq (.reg [⟨3, 2, false⟩, ⟨4, 0, false⟩]) (.cond (.seq (.reg [⟨5, 2, false⟩, ⟨6, 0, false⟩, ⟨7, 0, false⟩, ⟨8, 10, false⟩, ⟨9, 0, false⟩, ⟨2, 6, false⟩]) .leaf) .leaf)) (.seq (.reg [⟨10, 2, false⟩, ⟨11, 0, false⟩, ⟨12, 10, false⟩, ⟨13, 0, false⟩, ⟨2, 6, false⟩]) .leaf)))
    (Eq.mpr (by kernel_rfl) h)

/-- (waveport/num.whole).minus -/
theorem whole_minus_vc (p0 : WhV) (V : View) (R : Value → View → Prop) 
  (h :
    CallV Try.prog 131 #[.bool (!p0.neg), p0.mag.v] V fun v V1 => ∃ r1 : WhV, v = r1.val ∧ -- num.wholeOf
    R (r1.val) V1) :
  CallV Try.prog 93 #[p0.val] V R :=
  calls_of_vc (Shp := Shp) hmixed Try.func93 (c := Try.f93.body.getD .skip) (args := [p0.val]) (by kernel_rfl)
    (.seq (.reg [⟨1, 3, false⟩, ⟨2, 3, false⟩]) (.seq (.reg [⟨3, 7, false⟩, ⟨1, 4, false⟩, ⟨5, 0, false⟩, ⟨6, 7, false⟩, ⟨1, 4, false⟩, ⟨8, 10, false⟩, ⟨2, 6, false⟩]) .leaf))
    (Eq.mpr (by kernel_rfl) h)

/-- (waveport/num.whole).plus -/
theorem whole_plus_vc (p0 : WhV) (p1 : WhV) (V : View) (R : Value → View → Prop) 
  (h :
    ((p0.neg == p1.neg) = true →
      CallV Try.prog 144 #[p0.mag.v, p1.mag.v] V fun v V1 => ∃ r1 : Sl, v = r1.v ∧ -- (num.nat).add
      CallV Try.prog 131 #[.bool p0.neg, r1.v] V1 fun v V2 => ∃ r2 : WhV, v = r2.val ∧ -- num.wholeOf
      R (r2.val) V2) ∧
    ((p0.neg == p1.neg) = false →
      CallV Try.prog 145 #[p0.mag.v, p1.mag.v] V fun v V3 => ∃ r3 : Int, v = .int .i64 r3 ∧ -- (num.nat).cmp
    ((decide ((r3 : Int) ≥ 0)) = true →
      CallV Try.prog 146 #[p0.mag.v, p1.mag.v] V3 fun v V4 => ∃ r4 : Sl, v = r4.v ∧ -- (num.nat).sub
      CallV Try.prog 131 #[.bool p0.neg, r4.v] V4 fun v V5 => ∃ r5 : WhV, v = r5.val ∧ -- num.wholeOf
      R (r5.val) V5) ∧
    ((decide ((r3 : Int) ≥ 0)) = false →
      CallV Try.prog 146 #[p1.mag.v, p0.mag.v] V3 fun v V6 => ∃ r6 : Sl, v = r6.v ∧ -- (num.nat).sub
    CallV Try.prog 131 #[.bool p1.neg, r6.v] V6 fun v V7 => ∃ r7 : WhV, v = r7.val ∧ -- num.wholeOf
    R (r7.val) V7))) :
  CallV Try.prog 104 #[p0.val, p1.val] V R :=
  calls_of_vc (Shp := Shp) hmixed Try.func104 (c := Try.f104.body.getD .skip) (args := [p0.val, p1.val]) (by kernel_rfl)
    (.seq (.reg [⟨2, 3, false⟩, ⟨3, 3, false⟩, ⟨4, 3, false⟩]) (.seq (.seq (.reg [⟨5, 7, false⟩, ⟨2, 4, false⟩, ⟨7, 7, false⟩, ⟨3, 4, false⟩, ⟨9, 0, false⟩]) (.cond (.seq (.draw [(0, ⟨10, 7, false⟩), (1, ⟨2, 4, false⟩), (2, ⟨12, 7, false⟩), (3, ⟨2, 4, false⟩), (4, ⟨14, 7, false⟩), (5, ⟨3, 4, false⟩), (6, ⟨16, 10, false⟩), (7, ⟨17, 10, false⟩), (8, ⟨4, 6, false⟩)] [0, 1, 0, 4, 0, 16, 60, 127, 255]) .leaf) .leaf)) (.seq (.seq (.reg [⟨18, 7, false⟩, ⟨2, 4, false⟩, ⟨20, 7, false⟩, ⟨3, 4, false⟩, ⟨22, 10, false⟩, ⟨23, 0, false⟩]) (.cond (.seq (.draw [(0, ⟨24, 7, false⟩), (1, ⟨2, 4, false⟩), (2, ⟨26, 7, false⟩), (3, ⟨2, 4, false⟩), (4, ⟨28, 7, false⟩), (5, ⟨3, 4, false⟩), (6, ⟨30, 10, false⟩), (7, ⟨31, 10, false⟩), (8, ⟨4, 6, false⟩)] [0, 1, 0, 4, 0, 16, 60, 127, 255]) .leaf) .leaf)) (.seq (.draw [(0, ⟨32, 7, false⟩), (1, ⟨3, 4, false⟩), (2, ⟨34, 7, false⟩), (3, ⟨3, 4, false⟩), (4, ⟨36, 7, false⟩), (5, ⟨2, 4, false⟩), (6, ⟨38, 10, false⟩), (7, ⟨39, 10, false⟩), (8, ⟨4, 6, false⟩)] [0, 1, 0, 4, 0, 16, 60, 127, 255]) .leaf))))
    (Eq.mpr (by kernel_rfl) h)

/-- (waveport/num.whole).times -/
theorem whole_times_vc (p0 : WhV) (p1 : WhV) (V : View) (R : Value → View → Prop) 
  (h :
    CallV Try.prog 106 #[p0.mag.v, p1.mag.v] V fun v V1 => ∃ r1 : Sl, v = r1.v ∧ -- (num.nat).mul
    CallV Try.prog 131 #[.bool (!(p0.neg == p1.neg)), r1.v] V1 fun v V2 => ∃ r2 : WhV, v = r2.val ∧ -- num.wholeOf
    R (r2.val) V2) :
  CallV Try.prog 103 #[p0.val, p1.val] V R :=
  calls_of_vc (Shp := Shp) hmixed Try.func103 (c := Try.f103.body.getD .skip) (args := [p0.val, p1.val]) (by kernel_rfl)
    (.seq (.reg [⟨2, 3, false⟩, ⟨3, 3, false⟩, ⟨4, 3, false⟩]) (.seq (.draw [(0, ⟨5, 7, false⟩), (1, ⟨2, 4, false⟩), (2, ⟨7, 7, false⟩), (3, ⟨3, 4, false⟩), (4, ⟨9, 0, false⟩), (5, ⟨10, 7, false⟩), (6, ⟨2, 4, false⟩), (7, ⟨12, 7, false⟩), (8, ⟨3, 4, false⟩), (9, ⟨14, 10, false⟩), (10, ⟨15, 10, false⟩), (11, ⟨4, 6, false⟩)] [0, 1, 0, 4, 15, 0, 32, 0, 128, 480, 1023, 2047]) .leaf))
    (Eq.mpr (by kernel_rfl) h)

/-- (waveport/num.whole).scaled -/
theorem whole_scaled_vc (p0 : WhV) (p1 : Sl) (V : View) (R : Value → View → Prop) 
  (h :
    CallV Try.prog 106 #[p0.mag.v, p1.v] V fun v V1 => ∃ r1 : Sl, v = r1.v ∧ -- (num.nat).mul
    CallV Try.prog 131 #[.bool p0.neg, r1.v] V1 fun v V2 => ∃ r2 : WhV, v = r2.val ∧ -- num.wholeOf
    R (r2.val) V2) :
  CallV Try.prog 143 #[p0.val, p1.v] V R :=
  calls_of_vc (Shp := Shp) hmixed Try.func143 (c := Try.f143.body.getD .skip) (args := [p0.val, p1.v]) (by kernel_rfl)
    (.seq (.reg [⟨2, 3, false⟩, ⟨4, 3, false⟩]) (.seq (.draw [(0, ⟨5, 7, false⟩), (1, ⟨2, 4, false⟩), (2, ⟨7, 7, false⟩), (3, ⟨2, 4, false⟩), (4, ⟨9, 2, false⟩), (5, ⟨10, 10, false⟩), (6, ⟨11, 10, false⟩), (7, ⟨4, 6, false⟩)] [0, 1, 0, 4, 0, 28, 63, 127]) .leaf))
    (Eq.mpr (by kernel_rfl) h)

/-- waveport/num.over -/
theorem num_over_vc (p0 : WhV) (p1 : WhV) (p2 : Sl) (V : View) (R : Value → View → Prop) 
  (h :
    CallV Try.prog 132 #[p0.mag.v, p1.mag.v] V fun v V1 => ∃ r1 : Sl, v = r1.v ∧ -- (num.nat).gcd
    CallV Try.prog 132 #[r1.v, p2.v] V1 fun v V2 => ∃ r2 : Sl, v = r2.v ∧ -- (num.nat).gcd
    CallV Try.prog 133 #[r2.v] V2 fun v V3 => ∃ r3 : Bool, v = .bool r3 ∧ -- (num.nat).one
    ((!r3) = true →
      CallV Try.prog 134 #[p0.mag.v, r2.v] V3 fun v V4 => ∃ (r4 : Sl) (r5 : Sl), v = .tuple #[r4.v, r5.v] ∧ -- (num.nat).div
      CallV Try.prog 134 #[p1.mag.v, r2.v] V4 fun v V5 => ∃ (r6 : Sl) (r7 : Sl), v = .tuple #[r6.v, r7.v] ∧ -- (num.nat).div
      CallV Try.prog 134 #[p2.v, r2.v] V5 fun v V6 => ∃ (r8 : Sl) (r9 : Sl), v = .tuple #[r8.v, r9.v] ∧ -- (num.nat).div
      CallV Try.prog 133 #[r8.v] V6 fun v V7 => ∃ r10 : Bool, v = .bool r10 ∧ -- (num.nat).one
    (r10 = true →
      R ((NumV.mk (WhV.mk p0.neg r4) (WhV.mk p1.neg r6) (Sl.mk none 0 0)).val) V7) ∧
    (r10 = false →
      R ((NumV.mk (WhV.mk p0.neg r4) (WhV.mk p1.neg r6) r8).val) V7)) ∧
    ((!r3) = false →
      CallV Try.prog 133 #[p2.v] V3 fun v V8 => ∃ r11 : Bool, v = .bool r11 ∧ -- (num.nat).one
    (r11 = true →
      R ((NumV.mk p0 p1 (Sl.mk none 0 0)).val) V8) ∧
    (r11 = false →
      R ((NumV.mk p0 p1 p2).val) V8))) :
  CallV Try.prog 94 #[p0.val, p1.val, p2.v] V R :=
  calls_of_vc (Shp := Shp) hmixed Try.func94 (c := Try.f94.body.getD .skip) (args := [p0.val, p1.val, p2.v]) (by kernel_rfl)
    (.seq (.reg [⟨3, 3, false⟩, ⟨4, 3, false⟩, ⟨6, 3, false⟩]) (.seq (.reg [⟨8, 7, false⟩, ⟨3, 4, false⟩, ⟨10, 7, false⟩, ⟨4, 4, false⟩, ⟨12, 10, false⟩, ⟨13, 2, false⟩, ⟨14, 10, false⟩, ⟨7, 2, false⟩]) (.seq (.seq (.reg [⟨15, 2, false⟩, ⟨16, 10, false⟩, ⟨17, 0, false⟩]) (.cond (.seq (.reg [⟨19, 7, false⟩, ⟨3, 4, false⟩, ⟨21, 2, false⟩, ⟨22, 10, false⟩, ⟨18, 2, false⟩, ⟨23, 0, false⟩, ⟨24, 0, false⟩, ⟨25, 7, false⟩, ⟨3, 6, false⟩]) (.seq (.reg [⟨27, 7, false⟩, ⟨4, 4, false⟩, ⟨29, 2, false⟩, ⟨30, 10, false⟩, ⟨26, 2, false⟩, ⟨31, 0, false⟩, ⟨32, 0, false⟩, ⟨33, 7, false⟩, ⟨4, 6, false⟩]) (.reg [⟨35, 2, false⟩, ⟨36, 2, false⟩, ⟨37, 10, false⟩, ⟨34, 2, false⟩, ⟨38, 0, false⟩, ⟨39, 0, false⟩, ⟨2, 2, false⟩]))) .leaf)) (.seq (.seq (.reg [⟨40, 2, false⟩, ⟨41, 10, false⟩]) (.cond (.reg [⟨2, 2, false⟩]) .leaf)) (.seq (.reg [⟨3, 4, false⟩, ⟨4, 4, false⟩, ⟨44, 2, false⟩, ⟨45, 0, false⟩, ⟨6, 6, false⟩]) .leaf)))))
    (Eq.mpr (by kernel_rfl) h)

/-- (waveport/num.Num).den -/
theorem Num_den_vc (p0 : NumV) (V : View) (R : Value → View → Prop) 
  (h :
    ((((p0.under.len : Int) : Int) == 0) = true →
      ∀ (b1 : Nat) (V1 : View), View.le V V1 → View.Fin V1 → V1 b1 = some #[.int .u32 1] →
      R ((Sl.mk (some (Addr.mk b1 0 none)) 1 1).v) V1) ∧
    ((((p0.under.len : Int) : Int) == 0) = false →
      R (p0.under.v) V)) :
  CallV Try.prog 105 #[p0.val] V R :=
  calls_of_vc (Shp := Shp) hmixed Try.func105 (c := Try.f105.body.getD .skip) (args := [p0.val]) (by kernel_rfl)
    (.seq (.reg [⟨1, 3, false⟩, ⟨2, 2, false⟩]) (.seq (.seq (.reg [⟨3, 7, false⟩, ⟨1, 4, false⟩, ⟨5, 0, false⟩, ⟨6, 0, false⟩]) (.cond (.seq (.reg [⟨7, 11, false⟩, ⟨2, 2, false⟩]) .leaf) .leaf)) (.seq (.reg [⟨8, 7, false⟩, ⟨1, 4, false⟩, ⟨2, 2, false⟩]) .leaf)))
    (Eq.mpr (by kernel_rfl) h)

/-- waveport/num.Int -/
theorem num_Int_vc (p0 : Int) (V : View) (R : Value → View → Prop) 
  (h :
    CallV Try.prog 92 #[.int .i64 p0] V fun v V1 => ∃ r1 : WhV, v = r1.val ∧ -- num.of64
    R ((NumV.mk r1 (WhV.mk false (Sl.mk none 0 0)) (Sl.mk none 0 0)).val) V1) :
  CallV Try.prog 60 #[.int .i64 p0] V R :=
  calls_of_vc (Shp := Shp) hmixed Try.func60 (c := Try.f60.body.getD .skip) (args := [.int .i64 p0]) (by kernel_rfl)
    (.seq (.reg [⟨2, 3, false⟩]) (.seq (.reg [⟨3, 2, false⟩, ⟨4, 10, false⟩, ⟨5, 0, false⟩, ⟨2, 6, false⟩]) .leaf))
    (Eq.mpr (by kernel_rfl) h)

/-- waveport/num.New -/
theorem num_New_vc (p0 : Int) (p1 : Int) (p2 : Int) (V : View) (R : Value → View → Prop) 
  (h :
    (((p2 : Int) == 0) = true →
      R (.tuple #[(NumV.mk (WhV.mk false (Sl.mk none 0 0)) (WhV.mk false (Sl.mk none 0 0)) (Sl.mk none 0 0)).val, .int .i64 3]) V) ∧
    (((p2 : Int) == 0) = false →
      CallV Try.prog 92 #[.int .i64 p0] V fun v V1 => ∃ r1 : WhV, v = r1.val ∧ -- num.of64
    CallV Try.prog 92 #[.int .i64 p1] V1 fun v V2 => ∃ r2 : WhV, v = r2.val ∧ -- num.of64
    CallV Try.prog 92 #[.int .i64 p2] V2 fun v V3 => ∃ r3 : WhV, v = r3.val ∧ -- num.of64
    (r3.neg = true →
      CallV Try.prog 93 #[r1.val] V3 fun v V4 => ∃ r4 : WhV, v = r4.val ∧ -- (num.whole).minus
      CallV Try.prog 93 #[r2.val] V4 fun v V5 => ∃ r5 : WhV, v = r5.val ∧ -- (num.whole).minus
      CallV Try.prog 94 #[r4.val, r5.val, r3.mag.v] V5 fun v V6 => ∃ r6 : NumV, v = r6.val ∧ -- num.over
    R (.tuple #[r6.val, .int .i64 0]) V6) ∧
    (r3.neg = false →
      CallV Try.prog 94 #[r1.val, r2.val, r3.mag.v] V3 fun v V7 => ∃ r7 : NumV, v = r7.val ∧ -- num.over
    R (.tuple #[r7.val, .int .i64 0]) V7))) :
  CallV Try.prog 59 #[.int .i64 p0, .int .i64 p1, .int .i64 p2] V R :=
  calls_of_vc (Shp := Shp) hmixed Try.func59 (c := Try.f59.body.getD .skip) (args := [.int .i64 p0, .int .i64 p1, .int .i64 p2]) (by kernel_rfl)
    (.seq (.reg [⟨6, 3, false⟩, ⟨7, 2, false⟩]) (.seq (.seq (.reg [⟨11, 2, false⟩, ⟨12, 0, false⟩]) (.cond (.seq (.reg [⟨13, 0, false⟩, ⟨6, 6, false⟩, ⟨7, 2, false⟩]) .leaf) .leaf)) (.seq (.reg [⟨14, 2, false⟩, ⟨15, 10, false⟩, ⟨16, 2, false⟩, ⟨17, 10, false⟩, ⟨18, 2, false⟩, ⟨19, 10, false⟩, ⟨8, 3, false⟩, ⟨9, 3, false⟩, ⟨10, 3, false⟩, ⟨8, 6, false⟩, ⟨9, 6, false⟩, ⟨10, 6, false⟩]) (.seq (.seq (.reg [⟨20, 7, false⟩, ⟨10, 4, false⟩]) (.cond (.draw [(0, ⟨8, 4, false⟩), (2, ⟨9, 4, false⟩), (1, ⟨23, 10, false⟩), (3, ⟨25, 10, false⟩), (4, ⟨8, 6, false⟩), (5, ⟨9, 6, false⟩)] [0, 1, 0, 7, 15, 31]) .leaf)) (.seq (.reg [⟨8, 4, false⟩, ⟨9, 4, false⟩, ⟨28, 7, false⟩, ⟨10, 4, false⟩, ⟨30, 10, false⟩, ⟨6, 6, false⟩, ⟨7, 2, false⟩]) .leaf)))))
    (Eq.mpr (by kernel_rfl) h)

/-- (waveport/num.Num).Add -/
theorem Num_Add_vc (p0 : NumV) (p1 : NumV) (V : View) (R : Value → View → Prop) 
  (h :
    CallV Try.prog 105 #[p0.val] V fun v V1 => ∃ r1 : Sl, v = r1.v ∧ -- (num.Num).den
    CallV Try.prog 105 #[p1.val] V1 fun v V2 => ∃ r2 : Sl, v = r2.v ∧ -- (num.Num).den
    CallV Try.prog 143 #[p0.re.val, r2.v] V2 fun v V3 => ∃ r3 : WhV, v = r3.val ∧ -- (num.whole).scaled
    CallV Try.prog 143 #[p1.re.val, r1.v] V3 fun v V4 => ∃ r4 : WhV, v = r4.val ∧ -- (num.whole).scaled
    CallV Try.prog 104 #[r3.val, r4.val] V4 fun v V5 => ∃ r5 : WhV, v = r5.val ∧ -- (num.whole).plus
    CallV Try.prog 143 #[p0.im.val, r2.v] V5 fun v V6 => ∃ r6 : WhV, v = r6.val ∧ -- (num.whole).scaled
    CallV Try.prog 143 #[p1.im.val, r1.v] V6 fun v V7 => ∃ r7 : WhV, v = r7.val ∧ -- (num.whole).scaled
    CallV Try.prog 104 #[r6.val, r7.val] V7 fun v V8 => ∃ r8 : WhV, v = r8.val ∧ -- (num.whole).plus
    CallV Try.prog 106 #[r1.v, r2.v] V8 fun v V9 => ∃ r9 : Sl, v = r9.v ∧ -- (num.nat).mul
    CallV Try.prog 94 #[r5.val, r8.val, r9.v] V9 fun v V10 => ∃ r10 : NumV, v = r10.val ∧ -- num.over
    R (r10.val) V10) :
  CallV Try.prog 102 #[p0.val, p1.val] V R :=
  calls_of_vc (Shp := Shp) hmixed Try.func102 (c := Try.f102.body.getD .skip) (args := [p0.val, p1.val]) (by kernel_rfl)
    (.seq (.reg [⟨2, 3, false⟩, ⟨3, 3, false⟩, ⟨4, 3, false⟩]) (.seq (.draw [(0, ⟨2, 4, false⟩), (2, ⟨3, 4, false⟩), (1, ⟨8, 10, false⟩), (3, ⟨10, 10, false⟩), (4, ⟨5, 2, false⟩), (5, ⟨6, 2, false⟩)] [0, 1, 0, 7, 15, 31]) (.seq (.draw [(0, ⟨11, 7, false⟩), (1, ⟨2, 4, false⟩), (2, ⟨13, 2, false⟩), (4, ⟨15, 7, false⟩), (5, ⟨3, 4, false⟩), (6, ⟨17, 2, false⟩), (9, ⟨20, 7, false⟩), (10, ⟨2, 4, false⟩), (11, ⟨22, 2, false⟩), (13, ⟨24, 7, false⟩), (14, ⟨3, 4, false⟩), (15, ⟨26, 2, false⟩), (18, ⟨29, 2, false⟩), (19, ⟨30, 2, false⟩), (3, ⟨14, 10, false⟩), (7, ⟨18, 10, false⟩), (8, ⟨19, 10, false⟩), (12, ⟨23, 10, false⟩), (16, ⟨27, 10, false⟩), (17, ⟨28, 10, false⟩), (20, ⟨31, 10, false⟩), (21, ⟨32, 10, false⟩), (22, ⟨4, 6, false⟩)] [0, 1, 0, 7, 0, 16, 0, 127, 255, 0, 512, 0, 4095, 0, 8192, 0, 65535, 131071, 0, 0, 1048575, 2097151, 4194303]) .leaf)))
    (Eq.mpr (by kernel_rfl) h)

/-- (waveport/num.Num).Neg -/
theorem Num_Neg_vc (p0 : NumV) (V : View) (R : Value → View → Prop) 
  (h :
    CallV Try.prog 93 #[p0.re.val] V fun v V1 => ∃ r1 : WhV, v = r1.val ∧ -- (num.whole).minus
    CallV Try.prog 93 #[p0.im.val] V1 fun v V2 => ∃ r2 : WhV, v = r2.val ∧ -- (num.whole).minus
    R ((NumV.mk r1 r2 p0.under).val) V2) :
  CallV Try.prog 61 #[p0.val] V R :=
  calls_of_vc (Shp := Shp) hmixed Try.func61 (c := Try.f61.body.getD .skip) (args := [p0.val]) (by kernel_rfl)
    (.seq (.reg [⟨1, 3, false⟩, ⟨2, 3, false⟩]) (.seq (.draw [(0, ⟨3, 7, false⟩), (1, ⟨1, 4, false⟩), (3, ⟨6, 7, false⟩), (4, ⟨1, 4, false⟩), (6, ⟨9, 7, false⟩), (7, ⟨1, 4, false⟩), (2, ⟨5, 10, false⟩), (5, ⟨8, 10, false⟩), (8, ⟨11, 0, false⟩), (9, ⟨2, 6, false⟩)] [0, 1, 3, 0, 8, 31, 0, 64, 255, 511]) .leaf))
    (Eq.mpr (by kernel_rfl) h)

/-- (waveport/num.Num).Sub -/
theorem Num_Sub_vc (p0 : NumV) (p1 : NumV) (V : View) (R : Value → View → Prop) 
  (h :
    CallV Try.prog 61 #[p1.val] V fun v V1 => ∃ r1 : NumV, v = r1.val ∧ -- (num.Num).Neg
    CallV Try.prog 102 #[p0.val, r1.val] V1 fun v V2 => ∃ r2 : NumV, v = r2.val ∧ -- (num.Num).Add
    R (r2.val) V2) :
  CallV Try.prog 66 #[p0.val, p1.val] V R :=
  calls_of_vc (Shp := Shp) hmixed Try.func66 (c := Try.f66.body.getD .skip) (args := [p0.val, p1.val]) (by kernel_rfl)
    (.seq (.reg [⟨2, 3, false⟩, ⟨3, 3, false⟩, ⟨4, 3, false⟩]) (.seq (.draw [(0, ⟨2, 4, false⟩), (1, ⟨3, 4, false⟩), (2, ⟨7, 10, false⟩), (3, ⟨8, 10, false⟩), (4, ⟨4, 6, false⟩)] [0, 0, 2, 7, 15]) .leaf))
    (Eq.mpr (by kernel_rfl) h)

/-- (waveport/num.Num).Mul -/
theorem Num_Mul_vc (p0 : NumV) (p1 : NumV) (V : View) (R : Value → View → Prop) 
  (h :
    CallV Try.prog 103 #[p0.re.val, p1.re.val] V fun v V1 => ∃ r1 : WhV, v = r1.val ∧ -- (num.whole).times
    CallV Try.prog 103 #[p0.im.val, p1.im.val] V1 fun v V2 => ∃ r2 : WhV, v = r2.val ∧ -- (num.whole).times
    CallV Try.prog 93 #[r2.val] V2 fun v V3 => ∃ r3 : WhV, v = r3.val ∧ -- (num.whole).minus
    CallV Try.prog 104 #[r1.val, r3.val] V3 fun v V4 => ∃ r4 : WhV, v = r4.val ∧ -- (num.whole).plus
    CallV Try.prog 103 #[p0.re.val, p1.im.val] V4 fun v V5 => ∃ r5 : WhV, v = r5.val ∧ -- (num.whole).times
    CallV Try.prog 103 #[p0.im.val, p1.re.val] V5 fun v V6 => ∃ r6 : WhV, v = r6.val ∧ -- (num.whole).times
    CallV Try.prog 104 #[r5.val, r6.val] V6 fun v V7 => ∃ r7 : WhV, v = r7.val ∧ -- (num.whole).plus
    CallV Try.prog 105 #[p0.val] V7 fun v V8 => ∃ r8 : Sl, v = r8.v ∧ -- (num.Num).den
    CallV Try.prog 105 #[p1.val] V8 fun v V9 => ∃ r9 : Sl, v = r9.v ∧ -- (num.Num).den
    CallV Try.prog 106 #[r8.v, r9.v] V9 fun v V10 => ∃ r10 : Sl, v = r10.v ∧ -- (num.nat).mul
    CallV Try.prog 94 #[r4.val, r7.val, r10.v] V10 fun v V11 => ∃ r11 : NumV, v = r11.val ∧ -- num.over
    R (r11.val) V11) :
  CallV Try.prog 67 #[p0.val, p1.val] V R :=
  calls_of_vc (Shp := Shp) hmixed Try.func67 (c := Try.f67.body.getD .skip) (args := [p0.val, p1.val]) (by kernel_rfl)
    (.seq (.reg [⟨2, 3, false⟩, ⟨3, 3, false⟩, ⟨4, 3, false⟩]) (.seq (.draw [(0, ⟨7, 7, false⟩), (1, ⟨2, 4, false⟩), (2, ⟨9, 7, false⟩), (3, ⟨3, 4, false⟩), (5, ⟨12, 7, false⟩), (6, ⟨2, 4, false⟩), (7, ⟨14, 7, false⟩), (8, ⟨3, 4, false⟩), (12, ⟨5, 3, false⟩), (4, ⟨11, 10, false⟩), (9, ⟨16, 10, false⟩), (10, ⟨17, 10, false⟩), (11, ⟨18, 10, false⟩), (13, ⟨5, 6, false⟩)] [0, 1, 0, 4, 15, 0, 32, 0, 128, 511, 1023, 2047, 0, 8191]) (.seq (.draw [(0, ⟨19, 7, false⟩), (1, ⟨2, 4, false⟩), (2, ⟨21, 7, false⟩), (3, ⟨3, 4, false⟩), (5, ⟨24, 7, false⟩), (6, ⟨2, 4, false⟩), (7, ⟨26, 7, false⟩), (8, ⟨3, 4, false⟩), (11, ⟨6, 3, false⟩), (4, ⟨23, 10, false⟩), (9, ⟨28, 10, false⟩), (10, ⟨29, 10, false⟩), (12, ⟨6, 6, false⟩)] [0, 1, 0, 4, 15, 0, 32, 0, 128, 511, 1023, 0, 4095]) (.seq (.draw [(0, ⟨5, 4, false⟩), (1, ⟨6, 4, false⟩), (2, ⟨2, 4, false⟩), (4, ⟨3, 4, false⟩), (3, ⟨33, 10, false⟩), (5, ⟨35, 10, false⟩), (6, ⟨36, 10, false⟩), (7, ⟨37, 10, false⟩), (8, ⟨4, 6, false⟩)] [0, 0, 0, 4, 0, 28, 60, 127, 255]) .leaf))))
    (Eq.mpr (by kernel_rfl) h)

/-- (waveport/num.Num).Real -/
theorem Num_Real_vc (p0 : NumV) (V : View) (R : Value → View → Prop) 
  (h :
    R (.bool (((p0.im.mag.len : Int) : Int) == 0)) V) :
  CallV Try.prog 110 #[p0.val] V R :=
  calls_of_vc (Shp := Shp) hmixed Try.func110 (c := Try.f110.body.getD .skip) (args := [p0.val]) (by kernel_rfl)
    (.seq (.reg [⟨1, 3, false⟩, ⟨2, 2, false⟩]) (.seq (.reg [⟨3, 7, false⟩, ⟨4, 7, false⟩, ⟨1, 4, false⟩, ⟨6, 0, false⟩, ⟨7, 0, false⟩, ⟨2, 2, false⟩]) .leaf))
    (Eq.mpr (by kernel_rfl) h)

/-- (waveport/num.Num).Conj -/
theorem Num_Conj_vc (p0 : NumV) (V : View) (R : Value → View → Prop) 
  (h :
    CallV Try.prog 93 #[p0.im.val] V fun v V1 => ∃ r1 : WhV, v = r1.val ∧ -- (num.whole).minus
    R ((NumV.mk p0.re r1 p0.under).val) V1) :
  CallV Try.prog 231 #[p0.val] V R :=
  calls_of_vc (Shp := Shp) hmixed Try.func231 (c := Try.f231.body.getD .skip) (args := [p0.val]) (by kernel_rfl)
    (.seq (.reg [⟨1, 3, false⟩, ⟨2, 3, false⟩]) (.seq (.draw [(0, ⟨3, 7, false⟩), (1, ⟨1, 4, false⟩), (2, ⟨5, 7, false⟩), (3, ⟨1, 4, false⟩), (5, ⟨8, 7, false⟩), (6, ⟨1, 4, false⟩), (4, ⟨7, 10, false⟩), (7, ⟨10, 0, false⟩), (8, ⟨2, 6, false⟩)] [0, 1, 0, 4, 12, 0, 32, 127, 255]) .leaf))
    (Eq.mpr (by kernel_rfl) h)

/-- (waveport/num.Num).Of -/
theorem Num_Of_vc (p0 : NumV) (p1 : NumV) (V : View) (R : Value → View → Prop) 
  (h :
    R (p1.val) V) :
  CallV Try.prog 232 #[p0.val, p1.val] V R :=
  calls_of_vc (Shp := Shp) hmixed Try.func232 (c := Try.f232.body.getD .skip) (args := [p0.val, p1.val]) (by kernel_rfl)
    (.seq (.reg [⟨2, 3, false⟩, ⟨3, 3, false⟩, ⟨4, 3, false⟩]) (.seq (.reg [⟨3, 4, false⟩, ⟨4, 6, false⟩]) .leaf))
    (Eq.mpr (by kernel_rfl) h)

end Go.Proofs.Ytcapadojlaojkaa

namespace Go.Vc
open Go

/-- A complex number whose parts are fractions. -/
structure Cq where
  re : Rat
  im : Rat
theorem Cq.ext' {x y : Cq} (h1 : x.re = y.re) (h2 : x.im = y.im) : x = y := by cases x; cases y; cases h1; cases h2; rfl
instance : DecidableEq Cq := fun x y => if h1 : x.re = y.re then if h2 : x.im = y.im then .isTrue (Cq.ext' h1 h2) else .isFalse (fun e => h2 (by rw [e])) else .isFalse (fun e => h1 (by rw [e]))
instance : Add Cq := ⟨fun x y => ⟨x.re + y.re, x.im + y.im⟩⟩
instance : Neg Cq := ⟨fun x => ⟨-x.re, -x.im⟩⟩
instance : Sub Cq := ⟨fun x y => ⟨x.re - y.re, x.im - y.im⟩⟩
instance : Mul Cq := ⟨fun x y => ⟨x.re * y.re - x.im * y.im, x.re * y.im + x.im * y.re⟩⟩
def Cq.conj (x : Cq) : Cq := ⟨x.re, -x.im⟩
def Cq.norm (x : Cq) : Rat := x.re * x.re + x.im * x.im
def Cq.zero : Cq := ⟨0, 0⟩
def Cq.one : Cq := ⟨1, 0⟩
def Cq.I : Cq := ⟨0, 1⟩
def Cq.div (x y : Cq) : Cq := ⟨(x.re * y.re + x.im * y.im) / y.norm, (x.im * y.re - x.re * y.im) / y.norm⟩
theorem Cq.add_re (x y : Cq) : (x + y).re = x.re + y.re := rfl
theorem Cq.add_im (x y : Cq) : (x + y).im = x.im + y.im := rfl
theorem Cq.sub_re (x y : Cq) : (x - y).re = x.re - y.re := rfl
theorem Cq.sub_im (x y : Cq) : (x - y).im = x.im - y.im := rfl
theorem Cq.neg_re (x : Cq) : (-x).re = -x.re := rfl
theorem Cq.neg_im (x : Cq) : (-x).im = -x.im := rfl
theorem Cq.mul_re (x y : Cq) : (x * y).re = x.re * y.re - x.im * y.im := rfl
theorem Cq.mul_im (x y : Cq) : (x * y).im = x.re * y.im + x.im * y.re := rfl
theorem Cq.conj_im (x : Cq) : x.conj.im = -x.im := rfl

/-- (A + B i)/D. -/
structure Rep (z : Cq) (A B : Int) (D : Nat) : Prop where
  pos : D ≠ 0
  re : z.re = (A : Rat) / (D : Rat)
  im : z.im = (B : Rat) / (D : Rat)
/-- The same in lowest terms. -/
structure Canon (z : Cq) (A B : Int) (D : Nat) : Prop where
  rep : Rep z A B D
  cop : Nat.gcd (Nat.gcd A.natAbs B.natAbs) D = 1

theorem natCast_ne {D : Nat} (h : D ≠ 0) : (D : Rat) ≠ 0 := by simpa using h

theorem div_eq_div_iff' {A A' : Int} {D D' : Nat} (h : D ≠ 0) (h' : D' ≠ 0) : (A : Rat) / (D : Rat) = (A' : Rat) / (D' : Rat) ↔ A * D' = A' * D := by
  rw [← Rat.mkRat_eq_div, ← Rat.mkRat_eq_div, Rat.mkRat_eq_iff h h']

theorem Canon.dvd {z : Cq} {A B A' B' : Int} {D D' : Nat} (h : Canon z A B D) (h' : Rep z A' B' D') : D ∣ D' := by
  have e1 := (div_eq_div_iff' h.rep.pos h'.pos).1 (h.rep.re.symm.trans h'.re)
  have e2 := (div_eq_div_iff' h.rep.pos h'.pos).1 (h.rep.im.symm.trans h'.im)
  have f1 : D ∣ A.natAbs * D' := by
    have := congrArg Int.natAbs e1
    rw [Int.natAbs_mul, Int.natAbs_mul, Int.natAbs_natCast, Int.natAbs_natCast] at this
    exact ⟨A'.natAbs, by rw [this, Nat.mul_comm]⟩
  have f2 : D ∣ B.natAbs * D' := by
    have := congrArg Int.natAbs e2
    rw [Int.natAbs_mul, Int.natAbs_mul, Int.natAbs_natCast, Int.natAbs_natCast] at this
    exact ⟨B'.natAbs, by rw [this, Nat.mul_comm]⟩
  have f3 := Nat.dvd_gcd f1 f2
  rw [Nat.gcd_mul_right] at f3
  have hc : Nat.Coprime D (Nat.gcd A.natAbs B.natAbs) := by rw [Nat.Coprime, Nat.gcd_comm]; exact h.cop
  exact hc.dvd_of_dvd_mul_left f3

theorem Canon.inj {z : Cq} {A B A' B' : Int} {D D' : Nat} (h : Canon z A B D) (h' : Canon z A' B' D') : A = A' ∧ B = B' ∧ D = D' := by
  have hD : D = D' := Nat.dvd_antisymm (h.dvd h'.rep) (h'.dvd h.rep)
  subst hD
  have e1 := (div_eq_div_iff' h.rep.pos h'.rep.pos).1 (h.rep.re.symm.trans h'.rep.re)
  have e2 := (div_eq_div_iff' h.rep.pos h'.rep.pos).1 (h.rep.im.symm.trans h'.rep.im)
  have hD : (D : Int) ≠ 0 := by have := h.rep.pos; omega
  exact ⟨Int.eq_of_mul_eq_mul_right hD e1, Int.eq_of_mul_eq_mul_right hD e2, rfl⟩

/-- The common divisor of all three. -/
def gcd3 (A B : Int) (D : Nat) : Nat := Nat.gcd (Nat.gcd A.natAbs B.natAbs) D
theorem gcd3_pos (A B : Int) {D : Nat} (h : D ≠ 0) : 0 < gcd3 A B D := Nat.gcd_pos_of_pos_right _ (by omega)
theorem gcd3_dvd1 (A B : Int) (D : Nat) : gcd3 A B D ∣ A.natAbs := Nat.dvd_trans (Nat.gcd_dvd_left _ _) (Nat.gcd_dvd_left _ _)
theorem gcd3_dvd2 (A B : Int) (D : Nat) : gcd3 A B D ∣ B.natAbs := Nat.dvd_trans (Nat.gcd_dvd_left _ _) (Nat.gcd_dvd_right _ _)
theorem gcd3_dvd3 (A B : Int) (D : Nat) : gcd3 A B D ∣ D := Nat.gcd_dvd_right _ _

theorem natAbs_div {A : Int} {g : Nat} (h : g ∣ A.natAbs) : (A / (g : Int)).natAbs = A.natAbs / g := by
  obtain ⟨k, hk⟩ := h
  rcases Nat.eq_zero_or_pos g with h0 | h0
  · subst h0; simp
  · have hg : (g : Int) ≠ 0 := by omega
    rcases Int.natAbs_eq A with e | e
    · rw [hk] at e; rw [e, Int.natCast_mul, Int.mul_ediv_cancel_left _ hg, Int.natAbs_natCast, Int.natAbs_mul, Int.natAbs_natCast, Int.natAbs_natCast, Nat.mul_div_cancel_left _ h0]
    · rw [hk] at e; rw [e, Int.natCast_mul, ← Int.mul_neg, Int.mul_ediv_cancel_left _ hg, Int.natAbs_neg, Int.natAbs_natCast, Int.natAbs_mul, Int.natAbs_natCast, Int.natAbs_neg, Int.natAbs_natCast, Nat.mul_div_cancel_left _ h0]
theorem div_mul_of {A : Int} {g : Nat} (h : g ∣ A.natAbs) : A / (g : Int) * g = A := Int.ediv_mul_cancel (Int.ofNat_dvd_left.2 h)
theorem div_lt_zero {A : Int} {g : Nat} (h : g ∣ A.natAbs) (hg : 0 < g) : decide (A / (g : Int) < 0) = decide (A < 0) := by
  have e := div_mul_of h
  have hg' : (0 : Int) < g := by omega
  have : A / (g : Int) < 0 ↔ A < 0 := by
    constructor
    · intro h1
      have := Int.mul_neg_of_neg_of_pos h1 hg'
      omega
    · intro h1
      rcases Int.lt_or_le (A / (g : Int)) 0 with h2 | h2
      · exact h2
      · have := Int.mul_nonneg h2 (Int.le_of_lt hg'); omega
  simp [this]

theorem Rep.canon {z : Cq} {A B : Int} {D : Nat} (h : Rep z A B D) : Canon z (A / (gcd3 A B D : Nat)) (B / (gcd3 A B D : Nat)) (D / gcd3 A B D) := by
  have hg := gcd3_pos A B h.pos
  have d1 := gcd3_dvd1 A B D
  have d2 := gcd3_dvd2 A B D
  have d3 := gcd3_dvd3 A B D
  have hne : D / gcd3 A B D ≠ 0 := by
    have := Nat.div_pos (Nat.le_of_dvd (by have := h.pos; omega) d3) hg
    omega
  have key : ∀ {C : Int}, gcd3 A B D ∣ C.natAbs → (C : Rat) / (D : Rat) = ((C / (gcd3 A B D : Nat) : Int) : Rat) / ((D / gcd3 A B D : Nat) : Rat) := by
    intro C hC
    rw [div_eq_div_iff' h.pos hne]
    have e1 := div_mul_of hC
    have e2 := Nat.div_mul_cancel d3
    have e3 : (D : Int) = ((D / gcd3 A B D : Nat) : Int) * (gcd3 A B D : Nat) := by rw [← Int.natCast_mul, e2]
    generalize (C / (gcd3 A B D : Nat) : Int) = q at *
    generalize D / gcd3 A B D = m at *
    generalize gcd3 A B D = g at *
    rw [← e1, e3]
    grind
  refine ⟨⟨hne, h.re.trans (key d1), h.im.trans (key d2)⟩, ?_⟩
  rw [natAbs_div d1, natAbs_div d2, Nat.gcd_div d1 d2, Nat.gcd_div (Nat.dvd_gcd d1 d2) d3]
  exact Nat.div_self hg

theorem Cq.rep (z : Cq) : Rep z (z.re.num * z.im.den) (z.im.num * z.re.den) (z.re.den * z.im.den) := by
  have h1 := z.re.den_nz
  have h2 := z.im.den_nz
  have h3 := Nat.mul_ne_zero h1 h2
  refine ⟨h3, ?_, ?_⟩
  · conv => lhs; rw [← Rat.mkRat_self z.re, Rat.mkRat_eq_div]
    rw [div_eq_div_iff' h1 h3]
    rw [Int.natCast_mul]; grind
  · conv => lhs; rw [← Rat.mkRat_self z.im, Rat.mkRat_eq_div]
    rw [div_eq_div_iff' h2 h3]
    rw [Int.natCast_mul]; grind
def Cq.g (z : Cq) : Nat := gcd3 (z.re.num * z.im.den) (z.im.num * z.re.den) (z.re.den * z.im.den)
def Cq.A (z : Cq) : Int := z.re.num * z.im.den / (z.g : Int)
def Cq.B (z : Cq) : Int := z.im.num * z.re.den / (z.g : Int)
def Cq.D (z : Cq) : Nat := z.re.den * z.im.den / z.g
theorem Cq.canon (z : Cq) : Canon z z.A z.B z.D := z.rep.canon
theorem Cq.D_pos (z : Cq) : z.D ≠ 0 := z.canon.rep.pos
theorem Canon.eqs {z : Cq} {A B : Int} {D : Nat} (h : Canon z A B D) : z.A = A ∧ z.B = B ∧ z.D = D := z.canon.inj h
theorem Rep.eqs {z : Cq} {A B : Int} {D : Nat} (h : Rep z A B D) : z.A = A / (gcd3 A B D : Nat) ∧ z.B = B / (gcd3 A B D : Nat) ∧ z.D = D / gcd3 A B D := h.canon.eqs
theorem Cq.eq_of {z w : Cq} (h1 : z.A = w.A) (h2 : z.B = w.B) (h3 : z.D = w.D) : z = w := by
  have a := z.canon.rep
  have b := w.canon.rep
  exact Cq.ext' (by rw [a.re, b.re, h1, h3]) (by rw [a.im, b.im, h2, h3])

/-- The greatest number of bits. -/
def Cq.sz (z : Cq) : Nat := max (bl z.A.natAbs) (max (bl z.B.natAbs) (bl z.D))

theorem bl_mono {a b : Nat} (h : a ≤ b) : bl a ≤ bl b := by
  rcases Nat.eq_zero_or_pos a with h0 | h0
  · subst h0; simp [bl_zero]
  · have h1 := bl_le (by omega : a ≠ 0)
    have h2 := lt_bl b
    have := (Nat.pow_lt_pow_iff_right (a := 2) (n := bl a - 1) (m := bl b) (by omega)).1 (by omega)
    omega
theorem bl_le_of_lt {a k : Nat} (h : a < 2 ^ k) : bl a ≤ k := by
  rcases Nat.eq_zero_or_pos a with h0 | h0
  · subst h0; simp [bl_zero]
  · have h1 := bl_le (by omega : a ≠ 0)
    have := (Nat.pow_lt_pow_iff_right (a := 2) (n := bl a - 1) (m := k) (by omega)).1 (by omega)
    omega
theorem lt_of_bl {a k : Nat} (h : bl a ≤ k) : a < 2 ^ k := Nat.lt_of_lt_of_le (lt_bl a) (Nat.pow_le_pow_right (by omega) h)
theorem bl_mul (a b : Nat) : bl (a * b) ≤ bl a + bl b := by
  refine bl_le_of_lt ?_
  rw [Nat.pow_add]
  exact Nat.mul_lt_mul'' (lt_bl a) (lt_bl b)
theorem bl_add {a b k : Nat} (h1 : bl a ≤ k) (h2 : bl b ≤ k) : bl (a + b) ≤ k + 1 := by
  refine bl_le_of_lt ?_
  have := lt_of_bl h1
  have := lt_of_bl h2
  rw [Nat.pow_succ]; omega
theorem bl_addi {a b : Int} {k : Nat} (h1 : bl a.natAbs ≤ k) (h2 : bl b.natAbs ≤ k) : bl (a + b).natAbs ≤ k + 1 :=
  Nat.le_trans (bl_mono (Int.natAbs_add_le a b)) (bl_add h1 h2)
theorem bl_subi {a b : Int} {k : Nat} (h1 : bl a.natAbs ≤ k) (h2 : bl b.natAbs ≤ k) : bl (a - b).natAbs ≤ k + 1 := by
  rw [Int.sub_eq_add_neg]
  exact bl_addi h1 (by rw [Int.natAbs_neg]; exact h2)
theorem bl_muli (a b : Int) : bl (a * b).natAbs ≤ bl a.natAbs + bl b.natAbs := by rw [Int.natAbs_mul]; exact bl_mul _ _
theorem wn_bl {a k : Nat} (h : bl a ≤ 32 * k) : wn a ≤ k := wn_lt_pow (lt_of_bl h)

theorem Rep.sz {z : Cq} {A B : Int} {D k : Nat} (h : Rep z A B D) (hA : bl A.natAbs ≤ k) (hB : bl B.natAbs ≤ k) (hD : bl D ≤ k) : z.sz ≤ k := by
  obtain ⟨e1, e2, e3⟩ := h.eqs
  unfold Cq.sz
  rw [e1, e2, e3, natAbs_div (gcd3_dvd1 A B D), natAbs_div (gcd3_dvd2 A B D)]
  have a := bl_mono (Nat.div_le_self A.natAbs (gcd3 A B D))
  have b := bl_mono (Nat.div_le_self B.natAbs (gcd3 A B D))
  have c := bl_mono (Nat.div_le_self D (gcd3 A B D))
  omega
theorem Cq.szA (z : Cq) : bl z.A.natAbs ≤ z.sz := Nat.le_max_left _ _
theorem Cq.szB (z : Cq) : bl z.B.natAbs ≤ z.sz := by unfold Cq.sz; omega
theorem Cq.szD (z : Cq) : bl z.D ≤ z.sz := by unfold Cq.sz; omega

/-- What the operations come to, over a common denominator. -/
theorem Rep.add {z w : Cq} {A B A' B' : Int} {D D' : Nat} (h : Rep z A B D) (h' : Rep w A' B' D') : Rep (z + w) (A * D' + A' * D) (B * D' + B' * D) (D * D') := by
  have n1 := natCast_ne h.pos
  have n2 := natCast_ne h'.pos
  refine ⟨Nat.mul_ne_zero h.pos h'.pos, ?_, ?_⟩
  · rw [Cq.add_re, h.re, h'.re]; push_cast; grind
  · rw [Cq.add_im, h.im, h'.im]; push_cast; grind
theorem Rep.neg {z : Cq} {A B : Int} {D : Nat} (h : Rep z A B D) : Rep (-z) (-A) (-B) D := by
  refine ⟨h.pos, ?_, ?_⟩
  · rw [Cq.neg_re, h.re]; push_cast; grind
  · rw [Cq.neg_im, h.im]; push_cast; grind
theorem Rep.conj {z : Cq} {A B : Int} {D : Nat} (h : Rep z A B D) : Rep z.conj A (-B) D := by
  refine ⟨h.pos, h.re, ?_⟩
  rw [Cq.conj_im, h.im]; push_cast; grind
theorem Rep.mul {z w : Cq} {A B A' B' : Int} {D D' : Nat} (h : Rep z A B D) (h' : Rep w A' B' D') : Rep (z * w) (A * A' - B * B') (A * B' + B * A') (D * D') := by
  have n1 := natCast_ne h.pos
  have n2 := natCast_ne h'.pos
  refine ⟨Nat.mul_ne_zero h.pos h'.pos, ?_, ?_⟩
  · rw [Cq.mul_re, h.re, h'.re, h.im, h'.im]; push_cast; grind
  · rw [Cq.mul_im, h.re, h'.re, h.im, h'.im]; push_cast; grind

end Go.Vc

namespace Go.Vc
open Go

/-- An integer: its sign and its magnitude. -/
def IntAt (V : View) (x : WhV) (n : Int) : Prop := x.neg = decide (n < 0) ∧ NatAt V x.mag n.natAbs
theorem IntAt.le {V V' : View} {x : WhV} {n : Int} (hle : V.le V') (h : IntAt V x n) : IntAt V' x n := ⟨h.1, h.2.le hle⟩
theorem IntAt.zero (V : View) : IntAt V (WhV.mk false (Sl.mk none 0 0)) 0 := ⟨by simp, NatAt.zero V⟩
theorem IntAt.val {V : View} {x : WhV} {n : Int} (h : IntAt V x n) : n = if x.neg = true then -(n.natAbs : Int) else (n.natAbs : Int) := by
  rw [h.1]; simp only [decide_eq_true_eq]; split <;> omega
theorem IntAt.inj {V : View} {x : WhV} {n m : Int} (h : IntAt V x n) (h' : IntAt V x m) : n = m := by
  rw [h.val, h'.val, NatAt.inj h.2 h'.2]

/-- The program's number: the denominator 1 is no words. -/
structure NumAt (V : View) (x : NumV) (z : Cq) : Prop where
  re : IntAt V x.re z.A
  im : IntAt V x.im z.B
  under : NatAt V x.under (if z.D = 1 then 0 else z.D)
/-- The reference's number. -/
structure QAt (V : View) (x : NumV) (z : Cq) : Prop where
  re : IntAt V x.re z.A
  im : IntAt V x.im z.B
  under : NatAt V x.under z.D
theorem NumAt.le {V V' : View} {x : NumV} {z : Cq} (hle : V.le V') (h : NumAt V x z) : NumAt V' x z := ⟨h.re.le hle, h.im.le hle, h.under.le hle⟩
theorem QAt.le {V V' : View} {x : NumV} {z : Cq} (hle : V.le V') (h : QAt V x z) : QAt V' x z := ⟨h.re.le hle, h.im.le hle, h.under.le hle⟩
theorem NumAt.inj {V : View} {x : NumV} {z w : Cq} (h : NumAt V x z) (h' : NumAt V x w) : z = w := by
  refine Cq.eq_of (h.re.inj h'.re) (h.im.inj h'.im) ?_
  have := NatAt.inj h.under h'.under
  have := z.D_pos
  have := w.D_pos
  split at * <;> split at * <;> omega

theorem NatAt.len_zero {V : View} {s : Sl} {n : Nat} (h : NatAt V s n) : s.len = 0 ↔ n = 0 := by
  rw [← wn_eq_zero (n := n), wn, ← h.len]
theorem Rep.ofInt (n : Int) : Rep ⟨(n : Rat), 0⟩ n 0 1 := by
  refine ⟨by omega, ?_, ?_⟩
  · rw [Rat.div_def]; simp; grind
  · rw [Rat.div_def]; simp
theorem Cq.ofInt_eqs (n : Int) : (Cq.mk (n : Rat) 0).A = n ∧ (Cq.mk (n : Rat) 0).B = 0 ∧ (Cq.mk (n : Rat) 0).D = 1 :=
  Canon.eqs ⟨Rep.ofInt n, by simp⟩
theorem Cq.zero_eqs : Cq.zero.A = 0 ∧ Cq.zero.B = 0 ∧ Cq.zero.D = 1 := by
  have := Cq.ofInt_eqs 0
  simp only [Rat.intCast_zero] at this
  exact this
theorem NumAt.zero (V : View) : NumAt V (NumV.mk (WhV.mk false (Sl.mk none 0 0)) (WhV.mk false (Sl.mk none 0 0)) (Sl.mk none 0 0)) Cq.zero := by
  obtain ⟨h1, h2, h3⟩ := Cq.zero_eqs
  refine ⟨by rw [h1]; exact IntAt.zero V, by rw [h2]; exact IntAt.zero V, by rw [h3]; exact NatAt.zero V⟩
theorem bl_one : bl 1 = 1 := by decide
theorem Cq.sz_zero : Cq.zero.sz ≤ 1 := by
  obtain ⟨h1, h2, h3⟩ := Cq.zero_eqs
  unfold Cq.sz; rw [h1, h2, h3]; simp [bl_zero, bl_one]

theorem Cq.sz_add (z w : Cq) : (z + w).sz ≤ z.sz + w.sz + 1 := by
  have a1 := z.szA; have a2 := z.szB; have a3 := z.szD
  have b1 := w.szA; have b2 := w.szB; have b3 := w.szD
  refine (z.canon.rep.add w.canon.rep).sz ?_ ?_ ?_
  · refine bl_addi (Nat.le_trans (bl_muli _ _) ?_) (Nat.le_trans (bl_muli _ _) ?_) <;> simp only [Int.natAbs_natCast] <;> omega
  · refine bl_addi (Nat.le_trans (bl_muli _ _) ?_) (Nat.le_trans (bl_muli _ _) ?_) <;> simp only [Int.natAbs_natCast] <;> omega
  · exact Nat.le_trans (bl_mul _ _) (by omega)
theorem Cq.sz_mul (z w : Cq) : (z * w).sz ≤ z.sz + w.sz + 1 := by
  have a1 := z.szA; have a2 := z.szB; have a3 := z.szD
  have b1 := w.szA; have b2 := w.szB; have b3 := w.szD
  refine (z.canon.rep.mul w.canon.rep).sz ?_ ?_ ?_
  · exact bl_subi (Nat.le_trans (bl_muli _ _) (by omega)) (Nat.le_trans (bl_muli _ _) (by omega))
  · exact bl_addi (Nat.le_trans (bl_muli _ _) (by omega)) (Nat.le_trans (bl_muli _ _) (by omega))
  · exact Nat.le_trans (bl_mul _ _) (by omega)
theorem Cq.neg_eqs (z : Cq) : (-z).A = -z.A ∧ (-z).B = -z.B ∧ (-z).D = z.D :=
  Canon.eqs ⟨z.canon.rep.neg, by rw [Int.natAbs_neg, Int.natAbs_neg]; exact z.canon.cop⟩
theorem Cq.conj_eqs (z : Cq) : z.conj.A = z.A ∧ z.conj.B = -z.B ∧ z.conj.D = z.D :=
  Canon.eqs ⟨z.canon.rep.conj, by rw [Int.natAbs_neg]; exact z.canon.cop⟩
theorem Cq.sz_neg (z : Cq) : (-z).sz = z.sz := by
  obtain ⟨h1, h2, h3⟩ := z.neg_eqs
  unfold Cq.sz; rw [h1, h2, h3, Int.natAbs_neg, Int.natAbs_neg]
theorem Cq.sz_conj (z : Cq) : z.conj.sz = z.sz := by
  obtain ⟨h1, h2, h3⟩ := z.conj_eqs
  unfold Cq.sz; rw [h1, h2, h3, Int.natAbs_neg]
theorem Cq.sub_eq (z w : Cq) : z - w = z + -w := Cq.ext' (by rw [Cq.sub_re, Cq.add_re, Cq.neg_re]; grind) (by rw [Cq.sub_im, Cq.add_im, Cq.neg_im]; grind)
theorem Cq.sz_sub (z w : Cq) : (z - w).sz ≤ z.sz + w.sz + 1 := by
  rw [Cq.sub_eq, ← Cq.sz_neg w]; exact Cq.sz_add z (-w)

theorem Cq.B_zero {z : Cq} : z.B = 0 ↔ z.im = 0 := by
  have h := z.canon.rep
  rw [h.im]
  constructor
  · intro e; rw [e]; simp [Rat.div_def]
  · intro e
    have hD := natCast_ne h.pos
    have : ((z.B : Int) : Rat) = 0 := by
      have h2 := congrArg (· * (z.D : Rat)) e
      simp only [Rat.div_mul_cancel hD, Rat.zero_mul] at h2
      exact h2
    simpa using this
/-- -1, 0 or 1. -/
def cmpR (x y : Rat) : Int := if x < y then -1 else if x = y then 0 else 1
/-- As the program compares: by the real parts, then by the imaginary ones. -/
def Cq.cmp (z w : Cq) : Int := if cmpR z.re w.re ≠ 0 then cmpR z.re w.re else cmpR z.im w.im

end Go.Vc

namespace Go.Proofs.Ytcapadojlaojkaa
open Go Go.Vc Go.Proofs

theorem nat_gcd_spec {V : View} {s t : Sl} {a b : Nat} (hs : NatAt V s a) (ht : NatAt V t b) (ha : wn a ≤ 2 ^ 43) (hb : wn b ≤ 2 ^ 43) :
    CallV Try.prog n_nat_gcd #[s.v, t.v] V fun v V' => ∃ r : Sl, v = r.v ∧ NatAt V' r (Nat.gcd a b) := by
  refine nat_gcd_vc s t V _ (fun _ x V' => ∃ a' b', NatAt V' x.t0 a' ∧ NatAt V' x.t1 b' ∧ wn a' ≤ 2 ^ 43 ∧ wn b' ≤ 2 ^ 43 ∧ Nat.gcd a' b' = Nat.gcd a b) (fun _ x V' => natVal V' x.t1) ⟨⟨a, b, hs, ht, ha, hb, rfl⟩, ?_⟩
  rintro ⟨x, y⟩ V1 l1 ⟨a', b', hx, hy, wa, wb, hg⟩
  simp only at hx hy ⊢
  have hyl := hy.len
  refine ⟨fun hp => ?_, fun hp => ?_⟩
  · simp only [gt_iff_lt, decide_eq_true_eq] at hp
    have hb0 : b' ≠ 0 := fun e => by rw [← hy.len_zero] at e; omega
    refine (nat_div_spec hx hy wa hb0).mono fun v V2 l2 ⟨q, r, hv, hq, hr⟩ => ⟨q, r, hv, ?_⟩
    have hlt : a' % b' < b' := Nat.mod_lt _ (by omega)
    have hwr : wn (a' % b') ≤ wn b' := wn_mono (Nat.le_of_lt hlt)
    refine ⟨⟨b', a' % b', hy.le l2, hr, wb, by omega, ?_⟩, ?_⟩
    · rw [Nat.gcd_comm, ← Nat.gcd_rec, Nat.gcd_comm]; exact hg
    · rw [natVal_eq hr, natVal_eq hy]; exact hlt
  · simp only [gt_iff_lt, decide_eq_false_iff_not] at hp
    have hb0 : b' = 0 := hy.len_zero.1 (by omega)
    subst hb0
    rw [Nat.gcd_zero_right] at hg
    exact ⟨x, rfl, by rw [← hg]; exact hx⟩

theorem num_wholeOf_spec {V : View} {s : Sl} {n : Nat} (neg : Bool) (h : NatAt V s n) :
    CallV Try.prog n_num_wholeOf #[.bool neg, s.v] V fun v V' => ∃ r : WhV, v = r.val ∧ IntAt V' r (if neg = true then -(n : Int) else n) := by
  have hl := h.len_zero
  refine num_wholeOf_vc neg s V _ ⟨fun hn => ⟨_, rfl, ?_, ?_⟩, fun hn => ⟨_, rfl, ?_, ?_⟩⟩
  · rw [if_pos hn]; simp only [gt_iff_lt, decide_eq_decide]; omega
  · rw [if_pos hn]; simpa using h
  · rw [if_neg (by simp [hn])]; symm; simp only [decide_eq_false_iff_not]; omega
  · rw [if_neg (by simp [hn])]; simpa using h

theorem num_of64_spec {V : View} {n : Int} (h0 : -9223372036854775808 ≤ n) (h1 : n ≤ 9223372036854775807) :
    CallV Try.prog n_num_of64 #[.int .i64 n] V fun v V' => ∃ r : WhV, v = r.val ∧ IntAt V' r n := by
  refine num_of64_vc n V _ ⟨fun hn => ?_, fun hn => ?_⟩
  · simp only [decide_eq_true_eq] at hn
    have e : IntKind.u64.wrap (0 - IntKind.u64.wrap n) = -n := by rw [u64m, u64m]; omega
    rw [e]
    refine (num_natOf_spec (by omega) (by omega)).mono fun v V1 _ ⟨r, hv, hr⟩ => ⟨r, hv, _, rfl, by simp [hn], ?_⟩
    have e2 : n.natAbs = (-n).toNat := by omega
    rw [e2]; exact hr
  · simp only [decide_eq_false_iff_not] at hn
    rw [u64w (by omega) (by omega)]
    refine (num_natOf_spec (by omega) (by omega)).mono fun v V1 _ ⟨r, hv, hr⟩ => ⟨r, hv, _, rfl, by simp [hn], ?_⟩
    have e2 : n.natAbs = n.toNat := by omega
    rw [e2]; exact hr

theorem whole_minus_spec {V : View} {x : WhV} {a : Int} (h : IntAt V x a) :
    CallV Try.prog n_whole_minus #[x.val] V fun v V' => ∃ r : WhV, v = r.val ∧ IntAt V' r (-a) := by
  refine whole_minus_vc x V _ ((num_wholeOf_spec (!x.neg) h.2).mono fun v V1 _ ⟨r, hv, hr⟩ => ⟨r, hv, r, rfl, ?_⟩)
  have e : (if (!x.neg) = true then -(a.natAbs : Int) else (a.natAbs : Int)) = -a := by
    rw [h.1]; simp only [Bool.not_eq_true', decide_eq_false_iff_not]; split <;> omega
  rw [e] at hr; exact hr

theorem whole_plus_spec {V : View} {x y : WhV} {a b : Int} (hx : IntAt V x a) (hy : IntAt V y b) (ha : wn a.natAbs ≤ 2 ^ 43) (hb : wn b.natAbs ≤ 2 ^ 43) :
    CallV Try.prog n_whole_plus #[x.val, y.val] V fun v V' => ∃ r : WhV, v = r.val ∧ IntAt V' r (a + b) := by
  have h1 := hx.1
  have h2 := hy.1
  refine whole_plus_vc x y V _ ⟨fun hs => ?_, fun hs => ?_⟩
  · refine (nat_add_spec hx.2 hy.2 (by omega) (by omega)).mono fun v V1 l1 ⟨r, hv, hr⟩ => ⟨r, hv, ?_⟩
    refine (num_wholeOf_spec x.neg hr).mono fun v V2 _ ⟨w, hv, hw⟩ => ⟨w, hv, w, rfl, ?_⟩
    have e : (if x.neg = true then -((a.natAbs + b.natAbs : Nat) : Int) else ((a.natAbs + b.natAbs : Nat) : Int)) = a + b := by
      rw [h1, h2] at hs; rw [h1]
      by_cases p : a < 0 <;> by_cases q : b < 0 <;> simp [p, q] at hs ⊢ <;> omega
    rw [e] at hw; exact hw
  · refine (nat_cmp_spec hx.2 hy.2 (by omega)).mono fun v V1 l1 hv => ⟨_, hv, fun hc => ?_, fun hc => ?_⟩
    · have hc : b.natAbs ≤ a.natAbs := by
        rcases Nat.lt_or_ge a.natAbs b.natAbs with h | h
        · rw [if_pos h] at hc; simp at hc
        · exact h
      refine (nat_sub_spec (hx.2.le l1) (hy.2.le l1) (by omega) hc).mono fun v V2 l2 ⟨r, hv, hr⟩ => ⟨r, hv, ?_⟩
      refine (num_wholeOf_spec x.neg hr).mono fun v V3 _ ⟨w, hv, hw⟩ => ⟨w, hv, w, rfl, ?_⟩
      have e : (if x.neg = true then -((a.natAbs - b.natAbs : Nat) : Int) else ((a.natAbs - b.natAbs : Nat) : Int)) = a + b := by
        rw [h1, h2] at hs; rw [h1]
        by_cases p : a < 0 <;> by_cases q : b < 0 <;> simp [p, q] at hs ⊢ <;> omega
      rw [e] at hw; exact hw
    · have hc : a.natAbs ≤ b.natAbs := by
        rcases Nat.lt_or_ge b.natAbs a.natAbs with h | h
        · rw [if_neg (by omega), if_neg (by omega)] at hc; simp at hc
        · exact h
      refine (nat_sub_spec (hy.2.le l1) (hx.2.le l1) (by omega) hc).mono fun v V2 l2 ⟨r, hv, hr⟩ => ⟨r, hv, ?_⟩
      refine (num_wholeOf_spec y.neg hr).mono fun v V3 _ ⟨w, hv, hw⟩ => ⟨w, hv, w, rfl, ?_⟩
      have e : (if y.neg = true then -((b.natAbs - a.natAbs : Nat) : Int) else ((b.natAbs - a.natAbs : Nat) : Int)) = a + b := by
        rw [h1, h2] at hs; rw [h2]
        by_cases p : a < 0 <;> by_cases q : b < 0 <;> simp [p, q] at hs ⊢ <;> omega
      rw [e] at hw; exact hw

theorem sign_mul (x y a b : Int) (hx : x = if a < 0 then -1 else 1) (hy : y = if b < 0 then -1 else 1) : a * b = x * y * (a.natAbs * b.natAbs : Nat) := by
  have ha : a = x * a.natAbs := by rw [hx]; split <;> omega
  have hb : b = y * b.natAbs := by rw [hy]; split <;> omega
  rw [Int.natCast_mul]
  conv => lhs; rw [ha, hb]
  grind

theorem whole_times_spec {V : View} {x y : WhV} {a b : Int} (hx : IntAt V x a) (hy : IntAt V y b) (ha : wn a.natAbs ≤ 2 ^ 43) (hb : wn b.natAbs ≤ 2 ^ 43) :
    CallV Try.prog n_whole_times #[x.val, y.val] V fun v V' => ∃ r : WhV, v = r.val ∧ IntAt V' r (a * b) := by
  refine whole_times_vc x y V _ ((nat_mul_spec hx.2 hy.2 (by omega) (by omega)).mono fun v V1 l1 ⟨r, hv, hr⟩ => ⟨r, hv, ?_⟩)
  refine (num_wholeOf_spec (!(x.neg == y.neg)) hr).mono fun v V2 _ ⟨w, hv, hw⟩ => ⟨w, hv, w, rfl, ?_⟩
  have e : (if (!(x.neg == y.neg)) = true then -((a.natAbs * b.natAbs : Nat) : Int) else ((a.natAbs * b.natAbs : Nat) : Int)) = a * b := by
    rw [sign_mul _ _ a b rfl rfl, hx.1, hy.1]
    by_cases p : a < 0 <;> by_cases q : b < 0 <;> simp [p, q]
  rw [e] at hw; exact hw

theorem whole_scaled_spec {V : View} {x : WhV} {s : Sl} {a : Int} {n : Nat} (hx : IntAt V x a) (hs : NatAt V s n) (ha : wn a.natAbs ≤ 2 ^ 43) (hb : wn n ≤ 2 ^ 43) :
    CallV Try.prog n_whole_scaled #[x.val, s.v] V fun v V' => ∃ r : WhV, v = r.val ∧ IntAt V' r (a * n) := by
  refine whole_scaled_vc x s V _ ((nat_mul_spec hx.2 hs (by omega) (by omega)).mono fun v V1 l1 ⟨r, hv, hr⟩ => ⟨r, hv, ?_⟩)
  refine (num_wholeOf_spec x.neg hr).mono fun v V2 _ ⟨w, hv, hw⟩ => ⟨w, hv, w, rfl, ?_⟩
  have e : (if x.neg = true then -((a.natAbs * n : Nat) : Int) else ((a.natAbs * n : Nat) : Int)) = a * n := by
    conv => rhs; rw [hx.val]
    rw [Int.natCast_mul]; split
    · rw [Int.neg_mul]
    · rfl
  rw [e] at hw; exact hw

/-- (a + b i)/d in lowest terms. -/
theorem num_over_spec {V : View} {x y : WhV} {s : Sl} {z : Cq} {a b : Int} {d : Nat} (hx : IntAt V x a) (hy : IntAt V y b) (hs : NatAt V s d) (hz : Rep z a b d) (ha : wn a.natAbs ≤ 2 ^ 43) (hb : wn b.natAbs ≤ 2 ^ 43) (hd : wn d ≤ 2 ^ 43) :
    CallV Try.prog n_num_over #[x.val, y.val, s.v] V fun v V' => ∃ r : NumV, v = r.val ∧ NumAt V' r z := by
  obtain ⟨e1, e2, e3⟩ := hz.eqs
  have hp := gcd3_pos a b hz.pos
  have d1 := gcd3_dvd1 a b d
  have d2 := gcd3_dvd2 a b d
  have d3 := gcd3_dvd3 a b d
  refine num_over_vc x y s V _ ((nat_gcd_spec hx.2 hy.2 ha hb).mono fun v V1 l1 ⟨r1, hv, h1⟩ => ⟨r1, hv, ?_⟩)
  have hw1 : wn (Nat.gcd a.natAbs b.natAbs) ≤ 2 ^ 43 := by
    rcases Nat.eq_zero_or_pos a.natAbs with h | h
    · rw [h, Nat.gcd_zero_left]; exact hb
    · exact Nat.le_trans (wn_mono (Nat.le_of_dvd h (Nat.gcd_dvd_left _ _))) ha
  refine (nat_gcd_spec h1 (hs.le l1) hw1 hd).mono fun v V2 l2 ⟨r2, hv, h2⟩ => ⟨r2, hv, ?_⟩
  have hg : Nat.gcd (Nat.gcd a.natAbs b.natAbs) d = gcd3 a b d := rfl
  rw [hg] at h2
  refine (nat_one_spec h2).mono fun v V3 l3 hv => ⟨_, hv, fun hn => ?_, fun hn => ?_⟩
  · have l13 := View.le_trans l1 (View.le_trans l2 l3)
    refine (nat_div_spec (hx.2.le l13) (h2.le l3) ha (by omega)).mono fun v V4 l4 ⟨q1, m1, hv, hq1, _⟩ => ⟨q1, m1, hv, ?_⟩
    refine (nat_div_spec (hy.2.le (View.le_trans l13 l4)) (h2.le (View.le_trans l3 l4)) hb (by omega)).mono fun v V5 l5 ⟨q2, m2, hv, hq2, _⟩ => ⟨q2, m2, hv, ?_⟩
    have l45 := View.le_trans l4 l5
    refine (nat_div_spec (hs.le (View.le_trans l13 l45)) (h2.le (View.le_trans l3 l45)) hd (by omega)).mono fun v V6 l6 ⟨q3, m3, hv, hq3, _⟩ => ⟨q3, m3, hv, ?_⟩
    have f1 : IntAt V6 (WhV.mk x.neg q1) z.A := ⟨by rw [e1, div_lt_zero d1 hp]; exact hx.1, by rw [e1, natAbs_div d1]; exact hq1.le (View.le_trans l5 l6)⟩
    have f2 : IntAt V6 (WhV.mk y.neg q2) z.B := ⟨by rw [e2, div_lt_zero d2 hp]; exact hy.1, by rw [e2, natAbs_div d2]; exact hq2.le l6⟩
    refine (nat_one_spec hq3).mono fun v V7 l7 hv => ⟨_, hv, fun h => ⟨_, rfl, f1.le l7, f2.le l7, ?_⟩, fun h => ⟨_, rfl, f1.le l7, f2.le l7, ?_⟩⟩
    · simp only [decide_eq_true_eq] at h
      rw [e3, if_pos h]; exact NatAt.zero V7
    · simp only [decide_eq_false_iff_not] at h
      rw [e3, if_neg h]; exact hq3.le l7
  · simp only [Bool.not_eq_false', decide_eq_true_eq] at hn
    rw [hn] at e1 e2 e3
    simp only [Int.natCast_one, Int.ediv_one] at e1 e2
    rw [Nat.div_one] at e3
    have l13 := View.le_trans l1 (View.le_trans l2 l3)
    refine (nat_one_spec (hs.le l13)).mono fun v V7 l7 hv => ⟨_, hv, fun h => ⟨_, rfl, ?_, ?_, ?_⟩, fun h => ⟨_, rfl, ?_, ?_, ?_⟩⟩
    · rw [e1]; exact hx.le (View.le_trans l13 l7)
    · rw [e2]; exact hy.le (View.le_trans l13 l7)
    · simp only [decide_eq_true_eq] at h
      rw [e3, if_pos h]; exact NatAt.zero V7
    · rw [e1]; exact hx.le (View.le_trans l13 l7)
    · rw [e2]; exact hy.le (View.le_trans l13 l7)
    · simp only [decide_eq_false_iff_not] at h
      rw [e3, if_neg h]; exact hs.le (View.le_trans l13 l7)

theorem Num_den_spec {V : View} {x : NumV} {z : Cq} (h : NumAt V x z) : CallV Try.prog n_Num_den #[x.val] V fun v V' => ∃ r : Sl, v = r.v ∧ NatAt V' r z.D := by
  have hu := h.under
  have hl := hu.len_zero
  have hD := z.D_pos
  refine Num_den_vc x V _ ⟨fun h0 => ?_, fun h0 => ?_⟩
  · have h0 : x.under.len = 0 := by have : (x.under.len : Int) = 0 := (by simpa using h0); omega
    intro b V1 l1 _ hb
    have hz := hl.1 h0
    have h1 : z.D = 1 := by split at hz <;> omega
    refine ⟨_, rfl, ?_⟩
    rw [h1]
    have : dig 1 = [1] := by rw [dig_pos (by omega)]; simp [dig_zero]
    unfold NatAt; rw [this]
    exact Words.of_block (by rw [hb]; rfl) rfl (Nat.le_refl _) (by intro d hd; simp at hd; omega)
  · have h0 : x.under.len ≠ 0 := by have : ¬ (x.under.len : Int) = 0 := (by simpa using h0); omega
    refine ⟨_, rfl, ?_⟩
    have hz : ¬ (if z.D = 1 then 0 else z.D) = 0 := fun e => h0 (hl.2 e)
    split at hz
    · omega
    · rename_i h1; rw [if_neg h1] at hu; exact hu

theorem num_Int_spec {V : View} {n : Int} (h0 : -9223372036854775808 ≤ n) (h1 : n ≤ 9223372036854775807) :
    CallV Try.prog n_num_Int #[.int .i64 n] V fun v V' => ∃ r : NumV, v = r.val ∧ NumAt V' r ⟨(n : Rat), 0⟩ := by
  obtain ⟨e1, e2, e3⟩ := Cq.ofInt_eqs n
  refine num_Int_vc n V _ ((num_of64_spec h0 h1).mono fun v V1 _ ⟨r, hv, hr⟩ => ⟨r, hv, _, rfl, by rw [e1]; exact hr, by rw [e2]; exact IntAt.zero _, by rw [e3]; exact NatAt.zero _⟩)

theorem wn64 {n : Nat} (h : n ≤ 18446744073709551615) : wn n ≤ 2 ^ 43 := by
  have : wn n ≤ 2 := wn_le_of_lt (by omega)
  omega

/-- (p + q i)/d for d other than 0. -/
theorem num_New_spec {V : View} {p q d : Int} (p0 : -9223372036854775808 ≤ p) (p1 : p ≤ 9223372036854775807) (q0 : -9223372036854775808 ≤ q) (q1 : q ≤ 9223372036854775807) (d0 : -9223372036854775808 ≤ d) (d1 : d ≤ 9223372036854775807) (hd : d ≠ 0) :
    CallV Try.prog n_num_New #[.int .i64 p, .int .i64 q, .int .i64 d] V fun v V' => ∃ r : NumV, v = .tuple #[r.val, .int .i64 0] ∧ NumAt V' r ⟨(p : Rat) / (d : Rat), (q : Rat) / (d : Rat)⟩ := by
  refine num_New_vc p q d V _ ⟨fun h => ?_, fun _ => ?_⟩
  · exact absurd (by simpa using h) hd
  refine (num_of64_spec p0 p1).mono fun v V1 l1 ⟨a, hv, ha⟩ => ⟨a, hv, ?_⟩
  refine (num_of64_spec q0 q1).mono fun v V2 l2 ⟨b, hv, hb⟩ => ⟨b, hv, ?_⟩
  refine (num_of64_spec d0 d1).mono fun v V3 l3 ⟨c, hv, hc⟩ => ⟨c, hv, fun hn => ?_, fun hn => ?_⟩
  · have hneg : d < 0 := by have := hc.1; rw [hn] at this; simpa using this.symm
    refine (whole_minus_spec (ha.le (View.le_trans l2 l3))).mono fun v V4 l4 ⟨a', hv, ha'⟩ => ⟨a', hv, ?_⟩
    refine (whole_minus_spec (hb.le (View.le_trans l3 l4))).mono fun v V5 l5 ⟨b', hv, hb'⟩ => ⟨b', hv, ?_⟩
    refine (num_over_spec (ha'.le l5) hb' (hc.2.le (View.le_trans l4 l5)) ?_ (wn64 (by omega)) (wn64 (by omega)) (wn64 (by omega))).mono fun v V6 l6 ⟨r, hv, hr⟩ => ⟨r, hv, r, rfl, hr⟩
    have e : ((d.natAbs : Nat) : Rat) = -(d : Rat) := by
      have : (d.natAbs : Int) = -d := by omega
      rw [← Rat.intCast_natCast, this]; push_cast; rfl
    refine ⟨by omega, ?_, ?_⟩ <;> (simp only [e]; push_cast; rw [Rat.div_def, Rat.div_def]; grind)
  · have hpos : ¬ d < 0 := by have := hc.1; rw [hn] at this; simpa using this.symm
    refine (num_over_spec (ha.le (View.le_trans l2 l3)) (hb.le l3) hc.2 ?_ (wn64 (by omega)) (wn64 (by omega)) (wn64 (by omega))).mono fun v V6 l6 ⟨r, hv, hr⟩ => ⟨r, hv, r, rfl, hr⟩
    have e : ((d.natAbs : Nat) : Rat) = (d : Rat) := by
      have : (d.natAbs : Int) = d := by omega
      rw [← Rat.intCast_natCast, this]
    refine ⟨by omega, ?_, ?_⟩ <;> simp only [e]

/-- The sizes that the operations need. -/
theorem Cq.wA {z : Cq} (h : z.sz ≤ 2 ^ 40) : wn z.A.natAbs ≤ 2 ^ 35 := wn_bl (by have := z.szA; omega)
theorem Cq.wB {z : Cq} (h : z.sz ≤ 2 ^ 40) : wn z.B.natAbs ≤ 2 ^ 35 := wn_bl (by have := z.szB; omega)
theorem Cq.wD {z : Cq} (h : z.sz ≤ 2 ^ 40) : wn z.D ≤ 2 ^ 35 := wn_bl (by have := z.szD; omega)
theorem wn_muli {a b : Int} {k : Nat} (ha : wn a.natAbs ≤ k) (hb : wn b.natAbs ≤ k) : wn (a * b).natAbs ≤ 2 * k := by
  rw [Int.natAbs_mul]; have := wn_mul_le a.natAbs b.natAbs; omega
theorem wn_addi {a b : Int} {k : Nat} (ha : wn a.natAbs ≤ k) (hb : wn b.natAbs ≤ k) : wn (a + b).natAbs ≤ k + 1 := by
  have := wn_mono (Int.natAbs_add_le a b); have := wn_add_le a.natAbs b.natAbs; omega
theorem wn_negi {a : Int} {k : Nat} (ha : wn a.natAbs ≤ k) : wn (-a).natAbs ≤ k := by rw [Int.natAbs_neg]; exact ha

theorem Num_Add_spec {V : View} {x y : NumV} {z w : Cq} (hx : NumAt V x z) (hy : NumAt V y w) (hz : z.sz ≤ 2 ^ 40) (hw : w.sz ≤ 2 ^ 40) :
    CallV Try.prog n_Num_Add #[x.val, y.val] V fun v V' => ∃ r : NumV, v = r.val ∧ NumAt V' r (z + w) := by
  have zA := Cq.wA hz; have zB := Cq.wB hz; have zD := Cq.wD hz
  have wA := Cq.wA hw; have wB := Cq.wB hw; have wD := Cq.wD hw
  have zD' : wn (z.D : Int).natAbs ≤ 2 ^ 35 := zD
  have wD' : wn (w.D : Int).natAbs ≤ 2 ^ 35 := wD
  have s1 := wn_muli zA wD'; have s2 := wn_muli wA zD'; have s3 := wn_muli zB wD'; have s4 := wn_muli wB zD'
  have s5 := wn_addi s1 s2; have s6 := wn_addi s3 s4
  have s7 := wn_mul_le z.D w.D
  refine Num_Add_vc x y V _ ((Num_den_spec hx).mono fun v V1 l1 ⟨r1, hv, h1⟩ => ⟨r1, hv, ?_⟩)
  replace hx := hx.le l1; replace hy := hy.le l1
  refine (Num_den_spec hy).mono fun v V2 l2 ⟨r2, hv, h2⟩ => ⟨r2, hv, ?_⟩
  replace hx := hx.le l2; replace hy := hy.le l2; replace h1 := h1.le l2
  refine (whole_scaled_spec hx.re h2 (by omega) (by omega)).mono fun v V3 l3 ⟨r3, hv, h3⟩ => ⟨r3, hv, ?_⟩
  replace hx := hx.le l3; replace hy := hy.le l3; replace h1 := h1.le l3; replace h2 := h2.le l3
  refine (whole_scaled_spec hy.re h1 (by omega) (by omega)).mono fun v V4 l4 ⟨r4, hv, h4⟩ => ⟨r4, hv, ?_⟩
  replace hx := hx.le l4; replace hy := hy.le l4; replace h1 := h1.le l4; replace h2 := h2.le l4; replace h3 := h3.le l4
  refine (whole_plus_spec h3 h4 (by omega) (by omega)).mono fun v V5 l5 ⟨r5, hv, h5⟩ => ⟨r5, hv, ?_⟩
  replace hx := hx.le l5; replace hy := hy.le l5; replace h1 := h1.le l5; replace h2 := h2.le l5
  refine (whole_scaled_spec hx.im h2 (by omega) (by omega)).mono fun v V6 l6 ⟨r6, hv, h6⟩ => ⟨r6, hv, ?_⟩
  replace hy := hy.le l6; replace h1 := h1.le l6; replace h2 := h2.le l6; replace h5 := h5.le l6
  refine (whole_scaled_spec hy.im h1 (by omega) (by omega)).mono fun v V7 l7 ⟨r7, hv, h7⟩ => ⟨r7, hv, ?_⟩
  replace h1 := h1.le l7; replace h2 := h2.le l7; replace h5 := h5.le l7; replace h6 := h6.le l7
  refine (whole_plus_spec h6 h7 (by omega) (by omega)).mono fun v V8 l8 ⟨r8, hv, h8⟩ => ⟨r8, hv, ?_⟩
  replace h1 := h1.le l8; replace h2 := h2.le l8; replace h5 := h5.le l8
  refine (nat_mul_spec h1 h2 (by omega) (by omega)).mono fun v V9 l9 ⟨r9, hv, h9⟩ => ⟨r9, hv, ?_⟩
  exact (num_over_spec (h5.le l9) (h8.le l9) h9 (z.canon.rep.add w.canon.rep) (by omega) (by omega) (by omega)).mono fun v V10 _ ⟨r, hv, hr⟩ => ⟨r, hv, r, rfl, hr⟩

theorem Num_Neg_spec {V : View} {x : NumV} {z : Cq} (hx : NumAt V x z) : CallV Try.prog n_Num_Neg #[x.val] V fun v V' => ∃ r : NumV, v = r.val ∧ NumAt V' r (-z) := by
  obtain ⟨e1, e2, e3⟩ := z.neg_eqs
  refine Num_Neg_vc x V _ ((whole_minus_spec hx.re).mono fun v V1 l1 ⟨r1, hv, h1⟩ => ⟨r1, hv, ?_⟩)
  exact (whole_minus_spec (hx.im.le l1)).mono fun v V2 l2 ⟨r2, hv, h2⟩ => ⟨r2, hv, _, rfl, by rw [e1]; exact h1.le l2, by rw [e2]; exact h2, by rw [e3]; exact hx.under.le (View.le_trans l1 l2)⟩

theorem Num_Conj_spec {V : View} {x : NumV} {z : Cq} (hx : NumAt V x z) : CallV Try.prog n_Num_Conj #[x.val] V fun v V' => ∃ r : NumV, v = r.val ∧ NumAt V' r z.conj := by
  obtain ⟨e1, e2, e3⟩ := z.conj_eqs
  exact Num_Conj_vc x V _ ((whole_minus_spec hx.im).mono fun v V1 l1 ⟨r1, hv, h1⟩ => ⟨r1, hv, _, rfl, by rw [e1]; exact hx.re.le l1, by rw [e2]; exact h1, by rw [e3]; exact hx.under.le l1⟩)

theorem Num_Sub_spec {V : View} {x y : NumV} {z w : Cq} (hx : NumAt V x z) (hy : NumAt V y w) (hz : z.sz ≤ 2 ^ 40) (hw : w.sz ≤ 2 ^ 40) :
    CallV Try.prog n_Num_Sub #[x.val, y.val] V fun v V' => ∃ r : NumV, v = r.val ∧ NumAt V' r (z - w) := by
  refine Num_Sub_vc x y V _ ((Num_Neg_spec hy).mono fun v V1 l1 ⟨r1, hv, h1⟩ => ⟨r1, hv, ?_⟩)
  rw [Cq.sub_eq]
  exact (Num_Add_spec (hx.le l1) h1 hz (by rw [Cq.sz_neg]; exact hw)).mono fun v V2 _ ⟨r, hv, hr⟩ => ⟨r, hv, r, rfl, hr⟩

theorem Num_Mul_spec {V : View} {x y : NumV} {z w : Cq} (hx : NumAt V x z) (hy : NumAt V y w) (hz : z.sz ≤ 2 ^ 40) (hw : w.sz ≤ 2 ^ 40) :
    CallV Try.prog n_Num_Mul #[x.val, y.val] V fun v V' => ∃ r : NumV, v = r.val ∧ NumAt V' r (z * w) := by
  have zA := Cq.wA hz; have zB := Cq.wB hz; have zD := Cq.wD hz
  have wA := Cq.wA hw; have wB := Cq.wB hw; have wD := Cq.wD hw
  have s1 := wn_muli zA wA; have s2 := wn_muli zB wB; have s2' := wn_negi s2; have s3 := wn_muli zA wB; have s4 := wn_muli zB wA
  have s5 := wn_addi s1 s2'; have s6 := wn_addi s3 s4
  have s7 := wn_mul_le z.D w.D
  refine Num_Mul_vc x y V _ ((whole_times_spec hx.re hy.re (by omega) (by omega)).mono fun v V1 l1 ⟨r1, hv, h1⟩ => ⟨r1, hv, ?_⟩)
  replace hx := hx.le l1; replace hy := hy.le l1
  refine (whole_times_spec hx.im hy.im (by omega) (by omega)).mono fun v V2 l2 ⟨r2, hv, h2⟩ => ⟨r2, hv, ?_⟩
  replace hx := hx.le l2; replace hy := hy.le l2; replace h1 := h1.le l2
  refine (whole_minus_spec h2).mono fun v V3 l3 ⟨r3, hv, h3⟩ => ⟨r3, hv, ?_⟩
  replace hx := hx.le l3; replace hy := hy.le l3; replace h1 := h1.le l3
  refine (whole_plus_spec h1 h3 (by omega) (by omega)).mono fun v V4 l4 ⟨r4, hv, h4⟩ => ⟨r4, hv, ?_⟩
  replace hx := hx.le l4; replace hy := hy.le l4
  refine (whole_times_spec hx.re hy.im (by omega) (by omega)).mono fun v V5 l5 ⟨r5, hv, h5⟩ => ⟨r5, hv, ?_⟩
  replace hx := hx.le l5; replace hy := hy.le l5; replace h4 := h4.le l5
  refine (whole_times_spec hx.im hy.re (by omega) (by omega)).mono fun v V6 l6 ⟨r6, hv, h6⟩ => ⟨r6, hv, ?_⟩
  replace hx := hx.le l6; replace hy := hy.le l6; replace h4 := h4.le l6; replace h5 := h5.le l6
  refine (whole_plus_spec h5 h6 (by omega) (by omega)).mono fun v V7 l7 ⟨r7, hv, h7⟩ => ⟨r7, hv, ?_⟩
  replace hx := hx.le l7; replace hy := hy.le l7; replace h4 := h4.le l7
  refine (Num_den_spec hx).mono fun v V8 l8 ⟨r8, hv, h8⟩ => ⟨r8, hv, ?_⟩
  replace hy := hy.le l8; replace h4 := h4.le l8; replace h7 := h7.le l8
  refine (Num_den_spec hy).mono fun v V9 l9 ⟨r9, hv, h9⟩ => ⟨r9, hv, ?_⟩
  replace h4 := h4.le l9; replace h7 := h7.le l9; replace h8 := h8.le l9
  refine (nat_mul_spec h8 h9 (by omega) (by omega)).mono fun v V10 l10 ⟨r10, hv, h10⟩ => ⟨r10, hv, ?_⟩
  refine (num_over_spec (h4.le l10) (h7.le l10) h10 ?_ (by omega) (by omega) (by omega)).mono fun v V11 _ ⟨r, hv, hr⟩ => ⟨r, hv, r, rfl, hr⟩
  rw [← Int.sub_eq_add_neg]; exact z.canon.rep.mul w.canon.rep

theorem Num_Real_spec {V : View} {x : NumV} {z : Cq} (hx : NumAt V x z) : CallV Try.prog n_Num_Real #[x.val] V fun v V' => v = .bool (decide (z.im = 0)) := by
  refine Num_Real_vc x V _ ?_
  have h1 := hx.im.2.len_zero
  have h2 := Cq.B_zero (z := z)
  congr 1
  by_cases e : z.im = 0
  · have : x.im.mag.len = 0 := h1.2 (by rw [h2.2 e]; rfl)
    simp [e, this]
  · have : x.im.mag.len ≠ 0 := fun h => e (h2.1 (by have := h1.1 h; omega))
    simp only [e, decide_false, beq_eq_false_iff_ne, ne_eq]; omega

theorem Num_Of_spec {V : View} {x y : NumV} {w : Cq} (hy : NumAt V y w) : CallV Try.prog n_Num_Of #[x.val, y.val] V fun v V' => ∃ r : NumV, v = r.val ∧ NumAt V' r w :=
  Num_Of_vc x y V _ ⟨y, rfl, hy⟩

end Go.Proofs.Ytcapadojlaojkaa

set_option maxRecDepth 100000
set_option maxHeartbeats 4000000
namespace Go.Proofs.Ytcapadojlaojkaa
open Go Go.Vc Go.Proofs

/-- waveport/transform.length -/
theorem transform_length_vc (p0 : Int) (V : View) (R : Value → View → Prop) 
  (h :
    ((decide ((p0 : Int) ≥ 1)) = true →
    ((decide ((p0 : Int) ≤ 64)) = true →
    R (.bool (((IntKind.i64.wrap (BitVec.toNat ((BitVec.ofInt IntKind.i64.bits p0) &&& (BitVec.ofInt IntKind.i64.bits (IntKind.i64.wrap (p0 - 1)))))) : Int) == 0)) V) ∧
    ((decide ((p0 : Int) ≤ 64)) = false →
    R (.bool false) V)) ∧
    ((decide ((p0 : Int) ≥ 1)) = false →
    (false = true →
    R (.bool (((IntKind.i64.wrap (BitVec.toNat ((BitVec.ofInt IntKind.i64.bits p0) &&& (BitVec.ofInt IntKind.i64.bits (IntKind.i64.wrap (p0 - 1)))))) : Int) == 0)) V) ∧
    (false = false →
    R (.bool false) V))) :
  CallV Try.prog 58 #[.int .i64 p0] V R :=
  calls_of_vc (Shp := Shp) hmixed Try.func58 (c := Try.f58.body.getD .skip) (args := [.int .i64 p0]) (by kernel_rfl)
    (.seq (.reg [⟨2, 2, false⟩]) (.seq (.reg [⟨3, 2, false⟩, ⟨4, 0, false⟩, ⟨5, 2, true⟩, ⟨6, 2, false⟩, ⟨7, 0, false⟩, ⟨8, 2, false⟩, ⟨9, 2, true⟩, ⟨10, 2, false⟩, ⟨11, 2, false⟩, ⟨12, 0, false⟩, ⟨13, 0, false⟩, ⟨14, 0, false⟩, ⟨15, 2, false⟩, ⟨2, 2, false⟩]) .leaf))
    (Eq.mpr (by kernel_rfl) h)

/-- waveport/transform.fits[waveport/num.Num] -/
theorem transform_fits_num_Num__vc (p0 : Sl) (p1 : Sl) (V : View) (R : Value → View → Prop) 
  (h :
    CallV Try.prog 58 #[.int .i64 (p1.len : Int)] V fun v V1 => ∃ r1 : Bool, v = .bool r1 ∧ -- transform.length
    (r1 = true →
    R (.bool (((p0.len : Int) : Int) == (p1.len : Int))) V1) ∧
    (r1 = false →
    R (.bool false) V1)) :
  CallV Try.prog 107 #[p0.v, p1.v] V R :=
  calls_of_vc (Shp := Shp) hmixed Try.func107 (c := Try.f107.body.getD .skip) (args := [p0.v, p1.v]) (by kernel_rfl)
    (.seq (.reg [⟨4, 2, false⟩]) (.seq (.reg [⟨5, 2, false⟩, ⟨6, 0, false⟩, ⟨7, 10, false⟩, ⟨8, 2, true⟩, ⟨9, 2, false⟩, ⟨10, 0, false⟩, ⟨11, 2, false⟩, ⟨12, 0, false⟩, ⟨13, 0, false⟩, ⟨14, 2, false⟩, ⟨4, 2, false⟩]) .leaf))
    (Eq.mpr (by kernel_rfl) h)

structure L_transform_Exact_0 where
  t7l : Nat
  t7c : Nat
  t8 : Int
  o7 : List Value
structure C_transform_Exact_0 where
  t6 : Sl
/-- waveport/transform.Exact -/
theorem transform_Exact_vc (p0 : Int) (V : View) (R : Value → View → Prop) (I_transform_Exact_0 : C_transform_Exact_0 → L_transform_Exact_0 → View → Prop) (mu_transform_Exact_0 : C_transform_Exact_0 → L_transform_Exact_0 → View → Nat)
  (h :
    CallV Try.prog 58 #[.int .i64 p0] V fun v V1 => ∃ r1 : Bool, v = .bool r1 ∧ -- transform.length
    ((!r1) = true →
      R (.tuple #[(Sl.mk none 0 0).v, .int .i64 4]) V1) ∧
    ((!r1) = false →
      ((decide ((p0 : Int) > 4)) = true →
        R (.tuple #[(Sl.mk none 0 0).v, .int .i64 5]) V1) ∧
      ((decide ((p0 : Int) > 4)) = false →
        CallV Try.prog 59 #[.int .i64 0, .int .i64 (-1), .int .i64 1] V1 fun v V2 => ∃ (r2 : NumV) (r3 : Int), v = .tuple #[r2.val, .int .i64 r3] ∧ -- num.New
    CallV Try.prog 60 #[.int .i64 1] V2 fun v V3 => ∃ r4 : NumV, v = r4.val ∧ -- num.Int
    CallV Try.prog 60 #[.int .i64 (-1)] V3 fun v V4 => ∃ r5 : NumV, v = r5.val ∧ -- num.Int
    CallV Try.prog 61 #[r2.val] V4 fun v V5 => ∃ r6 : NumV, v = r6.val ∧ -- (num.Num).Neg
    ∀ (b1 : Nat) (V6 : View), View.le V5 V6 → View.Fin V6 → V6 b1 = some #[.bool r4.re.neg, r4.re.mag.v, .bool r4.im.neg, r4.im.mag.v, r4.under.v, .bool r2.re.neg, r2.re.mag.v, .bool r2.im.neg, r2.im.mag.v, r2.under.v, .bool r5.re.neg, r5.re.mag.v, .bool r5.im.neg, r5.im.mag.v, r5.under.v, .bool r6.re.neg, r6.re.mag.v, .bool r6.im.neg, r6.im.mag.v, r6.under.v] →
    I_transform_Exact_0 (C_transform_Exact_0.mk (Sl.mk (some (Addr.mk b1 0 none)) 4 4)) (L_transform_Exact_0.mk 0 0 0 ([] : List Value)) V6 ∧
    (∀ (x2 : L_transform_Exact_0) (V7 : View), View.le V6 V7 → I_transform_Exact_0 (C_transform_Exact_0.mk (Sl.mk (some (Addr.mk b1 0 none)) 4 4)) x2 V7 →
      ((decide ((x2.t8 : Int) < 4)) = true →
        ((0 : Int) ≤ x2.t8 ∧ (x2.t8 : Int) < (4 : Nat) ∧ Option.isSome (some (Addr.mk b1 0 none)) = true) ∧
      ∃ x3 : NumV, View.has V7 (Option.map (fun q => Addr.add q (Int.toNat x2.t8 * 5)) (some (Addr.mk b1 0 none))) (x3.val).cells.toList ∧ Option.isSome (Option.map (fun q => Addr.add q (Int.toNat x2.t8 * 5)) (some (Addr.mk b1 0 none))) = true ∧
      ∀ (b2 : Nat) (V8 : View), View.le V7 V8 → View.Fin V8 → V8 b2 = some #[.bool x3.re.neg, x3.re.mag.v, .bool x3.im.neg, x3.im.mag.v, x3.under.v] →
      ∃ (l1 : List Value) (l2 : List Value), LstOk 5 x2.t7l x2.t7c x2.o7 l1 ∧ View.has V8 (some (Addr.mk b2 0 none)) l2 ∧ List.length l2 = 1 * 5 ∧ (∀ v ∈ l2, Value.oneCell' v = true) ∧ x2.t7l + 1 ≤ maxLen ∧ (x2.t7l + 1) * 88 ≤ 140737488355328 ∧
      ∀ (c1 : Nat) (l3 : List Value), LstOk 5 (x2.t7l + 1) c1 l3 (l1 ++ l2) →
      (p0 : Int) ≠ 0 ∧
      I_transform_Exact_0 (C_transform_Exact_0.mk (Sl.mk (some (Addr.mk b1 0 none)) 4 4)) (L_transform_Exact_0.mk (x2.t7l + 1) c1 (IntKind.i64.wrap (x2.t8 + (IntKind.i64.wrap (Int.tdiv 4 p0)))) l3) V8 ∧ mu_transform_Exact_0 (C_transform_Exact_0.mk (Sl.mk (some (Addr.mk b1 0 none)) 4 4)) (L_transform_Exact_0.mk (x2.t7l + 1) c1 (IntKind.i64.wrap (x2.t8 + (IntKind.i64.wrap (Int.tdiv 4 p0)))) l3) V8 < mu_transform_Exact_0 (C_transform_Exact_0.mk (Sl.mk (some (Addr.mk b1 0 none)) 4 4)) x2 V7) ∧
      ((decide ((x2.t8 : Int) < 4)) = false →
        ∀ (b3 : Nat) (V9 : View), View.le V7 V9 → (x2.o7 ≠ [] → V9 b3 = some (List.toArray x2.o7)) →
    R (.tuple #[(Sl.mk (lstA b3 x2.t7c) x2.t7l x2.t7c).v, .int .i64 0]) V9))))) :
  CallV Try.prog 18 #[.int .i64 p0] V R :=
  calls_of_vc (Shp := Shp) hmixed Try.func18 (c := Try.f18.body.getD .skip) (args := [.int .i64 p0]) (by kernel_rfl)
    (.seq (.reg [⟨2, 2, false⟩, ⟨3, 2, false⟩]) (.seq (.block (.seq (.reg [⟨10, 2, false⟩, ⟨11, 10, false⟩, ⟨12, 0, false⟩, ⟨9, 2, false⟩]) (.cond (.seq (.reg [⟨2, 2, false⟩, ⟨3, 2, false⟩]) .leaf) (.seq (.reg [⟨14, 2, false⟩, ⟨15, 0, false⟩, ⟨13, 2, false⟩]) (.cond (.seq (.reg [⟨2, 2, false⟩, ⟨3, 2, false⟩]) .leaf) .leaf))))) (.seq (.reg [⟨17, 10, false⟩, ⟨16, 2, false⟩, ⟨18, 0, false⟩, ⟨19, 0, false⟩, ⟨4, 3, false⟩, ⟨4, 6, false⟩, ⟨5, 2, false⟩]) (.seq (.draw [(1, ⟨4, 4, false⟩), (3, ⟨4, 4, false⟩), (0, ⟨20, 10, false⟩), (2, ⟨22, 10, false⟩), (4, ⟨24, 10, false⟩), (5, ⟨25, 11, false⟩), (6, ⟨6, 2, false⟩)] [0, 0, 1, 0, 13, 31, 63]) (.seq (.reg [⟨7, 2, false⟩]) (.seq (.seq (.adopt 7 7 67 (.reg [⟨8, 2, false⟩])) (.block (.loop C_transform_Exact_0 L_transform_Exact_0 (fun σ => C_transform_Exact_0.mk (Sl.mk (gSlA (gTm σ 6)) (gSlL (gTm σ 6)) (gSlC (gTm σ 6)))) (fun c x => { tm := spT 40 0 [(0, .val (.int .i64 p0)), (6, .val (c.t6.v)), (7, .lst 7 x.t7l x.t7c), (8, .val (.int .i64 x.t8))], own := spO 40 0 [(7, ⟨67, .list x.o7⟩)] }) I_transform_Exact_0 mu_transform_Exact_0 (.seq (.seq (.reg [⟨26, 2, false⟩, ⟨27, 0, false⟩]) (.cond .leaf .leaf)) (.seq (.block (.reg [⟨32, 2, false⟩, ⟨33, 2, false⟩, ⟨34, 2, false⟩, ⟨35, 7, false⟩, ⟨36, 5, false⟩, ⟨37, 11, false⟩, ⟨7, 13, false⟩, ⟨7, 2, false⟩])) (.reg [⟨28, 2, false⟩, ⟨29, 2, false⟩, ⟨30, 12, false⟩, ⟨31, 0, false⟩, ⟨8, 2, false⟩])))))) (.seq (.reg [⟨39, 2, false⟩, ⟨2, 2, false⟩, ⟨3, 2, false⟩]) (.pub 7 .leaf))))))))
    (Eq.mpr (by kernel_rfl) (show CallV Try.prog 58 #[.int .i64 p0] V fun v V1 => ∃ r1 : Bool, v = .bool r1 ∧ -- transform.length
    ((!r1) = true →
      R (.tuple #[(Sl.mk none 0 0).v, .int .i64 4]) V1) ∧
    ((!r1) = false →
      ((decide ((p0 : Int) > 4)) = true →
        R (.tuple #[(Sl.mk none 0 0).v, .int .i64 5]) V1) ∧
      ((decide ((p0 : Int) > 4)) = false →
        CallV Try.prog 59 #[.int .i64 0, .int .i64 (-1), .int .i64 1] V1 fun v V2 => ∃ (r2 : NumV) (r3 : Int), v = .tuple #[r2.val, .int .i64 r3] ∧ -- num.New
    CallV Try.prog 60 #[.int .i64 1] V2 fun v V3 => ∃ r4 : NumV, v = r4.val ∧ -- num.Int
    CallV Try.prog 60 #[.int .i64 (-1)] V3 fun v V4 => ∃ r5 : NumV, v = r5.val ∧ -- num.Int
    CallV Try.prog 61 #[r2.val] V4 fun v V5 => ∃ r6 : NumV, v = r6.val ∧ -- (num.Num).Neg
    ∀ (b1 : Nat) (V6 : View), View.le V5 V6 → View.Fin V6 → V6 b1 = some #[.bool r4.re.neg, r4.re.mag.v, .bool r4.im.neg, r4.im.mag.v, r4.under.v, .bool r2.re.neg, r2.re.mag.v, .bool r2.im.neg, r2.im.mag.v, r2.under.v, .bool r5.re.neg, r5.re.mag.v, .bool r5.im.neg, r5.im.mag.v, r5.under.v, .bool r6.re.neg, r6.re.mag.v, .bool r6.im.neg, r6.im.mag.v, r6.under.v] →
    (∃ x1 : L_transform_Exact_0, ((SV.val (.int .i64 p0) = SV.val (.int .i64 p0) ∧ SV.val (.slice (some (Addr.mk b1 0 none)) 4 4) = SV.val (.slice (some (Addr.mk b1 0 none)) 4 4) ∧ SV.lst 7 0 0 = SV.lst 7 x1.t7l x1.t7c ∧ SV.val (.int .i64 0) = SV.val (.int .i64 x1.t8) ∧ True) ∧ ((some (⟨67, .list ([] : List Value)⟩) : Option OB) = some (⟨67, .list x1.o7⟩) ∧ True)) ∧ I_transform_Exact_0 (C_transform_Exact_0.mk (Sl.mk (some (Addr.mk b1 0 none)) 4 4)) x1 V6) ∧
    (∀ (x2 : L_transform_Exact_0) (V7 : View), View.le V6 V7 → I_transform_Exact_0 (C_transform_Exact_0.mk (Sl.mk (some (Addr.mk b1 0 none)) 4 4)) x2 V7 →
      ((decide ((x2.t8 : Int) < 4)) = true →
        ((0 : Int) ≤ x2.t8 ∧ (x2.t8 : Int) < (4 : Nat) ∧ Option.isSome (some (Addr.mk b1 0 none)) = true) ∧
      ∃ x3 : NumV, View.has V7 (Option.map (fun q => Addr.add q (Int.toNat x2.t8 * 5)) (some (Addr.mk b1 0 none))) (x3.val).cells.toList ∧ Option.isSome (Option.map (fun q => Addr.add q (Int.toNat x2.t8 * 5)) (some (Addr.mk b1 0 none))) = true ∧
      ∀ (b2 : Nat) (V8 : View), View.le V7 V8 → View.Fin V8 → V8 b2 = some #[.bool x3.re.neg, x3.re.mag.v, .bool x3.im.neg, x3.im.mag.v, x3.under.v] →
      ∃ (l1 : List Value) (l2 : List Value), LstOk 5 x2.t7l x2.t7c x2.o7 l1 ∧ View.has V8 (some (Addr.mk b2 0 none)) l2 ∧ List.length l2 = 1 * 5 ∧ (∀ v ∈ l2, Value.oneCell' v = true) ∧ x2.t7l + 1 ≤ maxLen ∧ (x2.t7l + 1) * 88 ≤ 140737488355328 ∧
      ∀ (c1 : Nat) (l3 : List Value), LstOk 5 (x2.t7l + 1) c1 l3 (l1 ++ l2) →
      (p0 : Int) ≠ 0 ∧
      ∃ x4 : L_transform_Exact_0, ((SV.val (.int .i64 p0) = SV.val (.int .i64 p0) ∧ SV.val (.slice (some (Addr.mk b1 0 none)) 4 4) = SV.val (.slice (some (Addr.mk b1 0 none)) 4 4) ∧ SV.lst 7 (x2.t7l + 1) c1 = SV.lst 7 x4.t7l x4.t7c ∧ SV.val (.int .i64 (IntKind.i64.wrap (x2.t8 + (IntKind.i64.wrap (Int.tdiv 4 p0))))) = SV.val (.int .i64 x4.t8) ∧ True) ∧ ((some (⟨67, .list l3⟩) : Option OB) = some (⟨67, .list x4.o7⟩) ∧ True)) ∧ I_transform_Exact_0 (C_transform_Exact_0.mk (Sl.mk (some (Addr.mk b1 0 none)) 4 4)) x4 V8 ∧ mu_transform_Exact_0 (C_transform_Exact_0.mk (Sl.mk (some (Addr.mk b1 0 none)) 4 4)) x4 V8 < mu_transform_Exact_0 (C_transform_Exact_0.mk (Sl.mk (some (Addr.mk b1 0 none)) 4 4)) x2 V7) ∧
      ((decide ((x2.t8 : Int) < 4)) = false →
        ∀ (b3 : Nat) (V9 : View), View.le V7 V9 → (x2.o7 ≠ [] → V9 b3 = some (List.toArray x2.o7)) →
    R (.tuple #[(Sl.mk (lstA b3 x2.t7c) x2.t7l x2.t7c).v, .int .i64 0]) V9)))) from (CallV.mono h (fun _ _ _ ⟨r1, h34, h33⟩ => ⟨r1, h34, ⟨fun h32 => (h33.1 h32), fun h32 => ⟨fun h31 => ((h33.2 h32).1 h31), fun h31 => (CallV.mono ((h33.2 h32).2 h31) (fun _ _ _ ⟨r2, r3, h30, h29⟩ => ⟨r2, r3, h30, (CallV.mono h29 (fun _ _ _ ⟨r4, h28, h27⟩ => ⟨r4, h28, (CallV.mono h27 (fun _ _ _ ⟨r5, h26, h25⟩ => ⟨r5, h26, (CallV.mono h25 (fun _ _ _ ⟨r6, h24, h23⟩ => ⟨r6, h24, (fun b1 V6 h20 h21 h22 => ⟨⟨(L_transform_Exact_0.mk 0 0 0 ([] : List Value)), ⟨⟨rfl, rfl, rfl, rfl, trivial⟩, ⟨rfl, trivial⟩⟩, (h23 b1 V6 h20 h21 h22).1⟩, fun x2 V7 h18 h19 => ⟨fun h17 => ⟨(((h23 b1 V6 h20 h21 h22).2 x2 V7 h18 h19).1 h17).1, (match (((h23 b1 V6 h20 h21 h22).2 x2 V7 h18 h19).1 h17).2 with | ⟨x3, h13, h14, h12⟩ => ⟨x3, h13, h14, (fun b2 V8 h9 h10 h11 => (match (h12 b2 V8 h9 h10 h11) with | ⟨l1, l2, h3, h4, h5, h6, h7, h8, h2⟩ => ⟨l1, l2, h3, h4, h5, h6, h7, h8, (fun c1 l3 h1 => ⟨(h2 c1 l3 h1).1, ⟨(L_transform_Exact_0.mk (x2.t7l + 1) c1 (IntKind.i64.wrap (x2.t8 + (IntKind.i64.wrap (Int.tdiv 4 p0)))) l3), ⟨⟨rfl, rfl, rfl, rfl, trivial⟩, ⟨rfl, trivial⟩⟩, (h2 c1 l3 h1).2.1, (h2 c1 l3 h1).2.2⟩⟩)⟩))⟩)⟩, fun h17 => (fun b3 V9 h15 h16 => ((((h23 b1 V6 h20 h21 h22).2 x2 V7 h18 h19).2 h17) b3 V9 h15 h16))⟩⟩)⟩))⟩))⟩))⟩))⟩⟩⟩))))

/-- waveport/waveportlaw01.Of -/
theorem law1_Of_vc (p0 : RatV) (V : View) (R : Value → View → Prop) 
  (h :
    (((p0.den : Int) == 0) = true →
      CallV Try.prog 59 #[.int .i64 p0.re, .int .i64 p0.im, .int .i64 1] V fun v V1 => ∃ (r1 : NumV) (r2 : Int), v = .tuple #[r1.val, .int .i64 r2] ∧ -- num.New
    R (r1.val) V1) ∧
    (((p0.den : Int) == 0) = false →
      CallV Try.prog 59 #[.int .i64 p0.re, .int .i64 p0.im, .int .i64 p0.den] V fun v V2 => ∃ (r3 : NumV) (r4 : Int), v = .tuple #[r3.val, .int .i64 r4] ∧ -- num.New
    R (r3.val) V2)) :
  CallV Try.prog 30 #[p0.val] V R :=
  calls_of_vc (Shp := Shp) hmixed Try.func30 (c := Try.f30.body.getD .skip) (args := [p0.val]) (by kernel_rfl)
    (.seq (.reg [⟨1, 3, false⟩, ⟨2, 3, false⟩]) (.seq (.seq (.reg [⟨5, 7, false⟩, ⟨1, 4, false⟩, ⟨7, 0, false⟩]) (.cond (.reg [⟨8, 7, false⟩, ⟨1, 6, false⟩]) .leaf)) (.seq (.reg [⟨10, 7, false⟩, ⟨1, 4, false⟩, ⟨12, 7, false⟩, ⟨1, 4, false⟩, ⟨14, 7, false⟩, ⟨1, 4, false⟩, ⟨16, 10, false⟩, ⟨9, 2, false⟩, ⟨17, 0, false⟩, ⟨18, 0, false⟩, ⟨3, 3, false⟩, ⟨3, 6, false⟩, ⟨4, 2, false⟩]) (.seq (.reg [⟨3, 4, false⟩, ⟨2, 6, false⟩]) .leaf))))
    (Eq.mpr (by kernel_rfl) h)

structure L_law1_List_0 where
  t11 : Int
  o8 : List Value
/-- waveport/waveportlaw01.List -/
theorem law1_List_vc (p0 : Sl) (V : View) (R : Value → View → Prop) (I_law1_List_0 : Unit → L_law1_List_0 → View → Prop) (mu_law1_List_0 : Unit → L_law1_List_0 → View → Nat)
  (h :
    ((0 : Int) ≤ (p0.len : Int) ∧ ((p0.len : Int) : Int) ≤ (p0.len : Int) ∧ (88 : Int) * (p0.len : Int) ≤ 281474976710656 ∧ ((p0.len : Int) : Int) ≤ 9223372036854775807) ∧
    I_law1_List_0 () (L_law1_List_0.mk 0 ((List.replicate (Int.toNat (p0.len : Int)) [Value.bool false, Value.slice none 0 0, Value.bool false, Value.slice none 0 0, Value.slice none 0 0]).flatten)) V ∧
    (∀ (x2 : L_law1_List_0) (V1 : View), View.le V V1 → I_law1_List_0 () x2 V1 →
      ((decide ((x2.t11 : Int) < (p0.len : Int))) = true →
        ((0 : Int) ≤ x2.t11 ∧ (x2.t11 : Int) < (p0.len : Nat) ∧ Option.isSome p0.a = true) ∧
      ∃ x3 : RatV, View.has V1 (Option.map (fun q => Addr.add q (Int.toNat x2.t11 * 3)) p0.a) (x3.val).cells.toList ∧ Option.isSome (Option.map (fun q => Addr.add q (Int.toNat x2.t11 * 3)) p0.a) = true ∧
      CallV Try.prog 30 #[x3.val] V1 fun v V2 => ∃ r1 : NumV, v = r1.val ∧ -- waveportlaw01.Of
      ((0 : Int) ≤ x2.t11 ∧ (x2.t11 : Int) < (Int.toNat (p0.len : Int) : Nat)) ∧
      0 + Int.toNat x2.t11 * 5 + 5 ≤ List.length x2.o8 ∧
      I_law1_List_0 () (L_law1_List_0.mk (IntKind.i64.wrap (x2.t11 + 1)) (setL x2.o8 (0 + Int.toNat x2.t11 * 5) [.bool r1.re.neg, r1.re.mag.v, .bool r1.im.neg, r1.im.mag.v, r1.under.v])) V2 ∧ mu_law1_List_0 () (L_law1_List_0.mk (IntKind.i64.wrap (x2.t11 + 1)) (setL x2.o8 (0 + Int.toNat x2.t11 * 5) [.bool r1.re.neg, r1.re.mag.v, .bool r1.im.neg, r1.im.mag.v, r1.under.v])) V2 < mu_law1_List_0 () x2 V1) ∧
      ((decide ((x2.t11 : Int) < (p0.len : Int))) = false →
        ∀ (b1 : Nat) (V3 : View), View.le V1 V3 → V3 b1 = some (List.toArray x2.o8) →
    R ((Sl.mk (some (Addr.mk b1 0 none)) (Int.toNat (p0.len : Int)) (Int.toNat (p0.len : Int))).v) V3))) :
  CallV Try.prog 26 #[p0.v] V R :=
  calls_of_vc (Shp := Shp) hmixed Try.func26 (c := Try.f26.body.getD .skip) (args := [p0.v]) (by kernel_rfl)
    (.seq (.reg [⟨2, 2, false⟩]) (.seq (.reg [⟨6, 2, false⟩, ⟨7, 0, false⟩, ⟨8, 3, false⟩, ⟨3, 2, false⟩]) (.seq (.seq (.reg [⟨9, 2, false⟩, ⟨10, 0, false⟩, ⟨11, 2, false⟩]) (.block (.loop Unit L_law1_List_0 (fun _ => ()) (fun c x => { tm := spT 23 0 [(3, .osl 8 0 (Int.toNat (p0.len : Int)) (Int.toNat (p0.len : Int))), (9, .val (p0.v)), (10, .val (.int .i64 (p0.len : Int))), (11, .val (.int .i64 x.t11))], own := spO 23 0 [(8, ⟨67, .dyn x.o8⟩)] }) I_law1_List_0 mu_law1_List_0 (.seq (.reg [⟨12, 0, false⟩]) (.seq (.cond .leaf .leaf) (.seq (.block (.seq (.reg [⟨13, 2, false⟩, ⟨14, 7, false⟩, ⟨15, 5, false⟩, ⟨5, 3, false⟩, ⟨4, 2, false⟩, ⟨5, 6, false⟩]) (.reg [⟨16, 2, false⟩, ⟨17, 2, false⟩, ⟨5, 4, false⟩, ⟨19, 10, false⟩, ⟨20, 7, false⟩, ⟨8, 6, false⟩]))) (.reg [⟨21, 0, false⟩, ⟨11, 2, false⟩]))))))) (.seq (.reg [⟨22, 2, false⟩, ⟨2, 2, false⟩]) (.pub 8 .leaf)))))
    (Eq.mpr (by kernel_rfl) (show ((0 : Int) ≤ (p0.len : Int) ∧ ((p0.len : Int) : Int) ≤ (p0.len : Int) ∧ (88 : Int) * (p0.len : Int) ≤ 281474976710656 ∧ ((p0.len : Int) : Int) ≤ 9223372036854775807) ∧
    (∃ x1 : L_law1_List_0, ((SV.osl 8 0 (Int.toNat (p0.len : Int)) (Int.toNat (p0.len : Int)) = SV.osl 8 0 (Int.toNat (p0.len : Int)) (Int.toNat (p0.len : Int)) ∧ SV.val (p0.v) = SV.val (p0.v) ∧ SV.val (.int .i64 (p0.len : Int)) = SV.val (.int .i64 (p0.len : Int)) ∧ SV.val (.int .i64 0) = SV.val (.int .i64 x1.t11) ∧ True) ∧ ((some (⟨67, .dyn ((List.replicate (Int.toNat (p0.len : Int)) [Value.bool false, Value.slice none 0 0, Value.bool false, Value.slice none 0 0, Value.slice none 0 0]).flatten)⟩) : Option OB) = some (⟨67, .dyn x1.o8⟩) ∧ True)) ∧ I_law1_List_0 () x1 V) ∧
    (∀ (x2 : L_law1_List_0) (V1 : View), View.le V V1 → I_law1_List_0 () x2 V1 →
      ((decide ((x2.t11 : Int) < (p0.len : Int))) = true →
        ((0 : Int) ≤ x2.t11 ∧ (x2.t11 : Int) < (p0.len : Nat) ∧ Option.isSome p0.a = true) ∧
      ∃ x3 : RatV, View.has V1 (Option.map (fun q => Addr.add q (Int.toNat x2.t11 * 3)) p0.a) (x3.val).cells.toList ∧ Option.isSome (Option.map (fun q => Addr.add q (Int.toNat x2.t11 * 3)) p0.a) = true ∧
      CallV Try.prog 30 #[x3.val] V1 fun v V2 => ∃ r1 : NumV, v = r1.val ∧ -- waveportlaw01.Of
      ((0 : Int) ≤ x2.t11 ∧ (x2.t11 : Int) < (Int.toNat (p0.len : Int) : Nat)) ∧
      0 + Int.toNat x2.t11 * 5 + 5 ≤ List.length x2.o8 ∧
      ∃ x4 : L_law1_List_0, ((SV.osl 8 0 (Int.toNat (p0.len : Int)) (Int.toNat (p0.len : Int)) = SV.osl 8 0 (Int.toNat (p0.len : Int)) (Int.toNat (p0.len : Int)) ∧ SV.val (p0.v) = SV.val (p0.v) ∧ SV.val (.int .i64 (p0.len : Int)) = SV.val (.int .i64 (p0.len : Int)) ∧ SV.val (.int .i64 (IntKind.i64.wrap (x2.t11 + 1))) = SV.val (.int .i64 x4.t11) ∧ True) ∧ ((some (⟨67, .dyn (setL x2.o8 (0 + Int.toNat x2.t11 * 5) [.bool r1.re.neg, r1.re.mag.v, .bool r1.im.neg, r1.im.mag.v, r1.under.v])⟩) : Option OB) = some (⟨67, .dyn x4.o8⟩) ∧ True)) ∧ I_law1_List_0 () x4 V2 ∧ mu_law1_List_0 () x4 V2 < mu_law1_List_0 () x2 V1) ∧
      ((decide ((x2.t11 : Int) < (p0.len : Int))) = false →
        ∀ (b1 : Nat) (V3 : View), View.le V1 V3 → V3 b1 = some (List.toArray x2.o8) →
    R ((Sl.mk (some (Addr.mk b1 0 none)) (Int.toNat (p0.len : Int)) (Int.toNat (p0.len : Int))).v) V3)) from ⟨h.1, ⟨⟨(L_law1_List_0.mk 0 ((List.replicate (Int.toNat (p0.len : Int)) [Value.bool false, Value.slice none 0 0, Value.bool false, Value.slice none 0 0, Value.slice none 0 0]).flatten)), ⟨⟨rfl, rfl, rfl, rfl, trivial⟩, ⟨rfl, trivial⟩⟩, h.2.1⟩, fun x2 V1 h9 h10 => ⟨fun h8 => ⟨((h.2.2 x2 V1 h9 h10).1 h8).1, (match ((h.2.2 x2 V1 h9 h10).1 h8).2 with | ⟨x3, h4, h5, h3⟩ => ⟨x3, h4, h5, (CallV.mono h3 (fun _ _ _ ⟨r1, h2, h1⟩ => ⟨r1, h2, ⟨h1.1, ⟨h1.2.1, ⟨(L_law1_List_0.mk (IntKind.i64.wrap (x2.t11 + 1)) (setL x2.o8 (0 + Int.toNat x2.t11 * 5) [.bool r1.re.neg, r1.re.mag.v, .bool r1.im.neg, r1.im.mag.v, r1.under.v])), ⟨⟨rfl, rfl, rfl, rfl, trivial⟩, ⟨rfl, trivial⟩⟩, h1.2.2.1, h1.2.2.2⟩⟩⟩⟩))⟩)⟩, fun h8 => (fun b1 V3 h6 h7 => (((h.2.2 x2 V1 h9 h10).2 h8) b1 V3 h6 h7))⟩⟩⟩))

structure L_transform_every_num_Num__0 where
  t5l : Nat
  t5c : Nat
  t6 : Int
  o5 : List Value
/-- waveport/transform.every[waveport/num.Num] -/
theorem transform_every_num_Num__vc (p0 : Sl) (p1 : Int) (V : View) (R : Value → View → Prop) (I_transform_every_num_Num__0 : Unit → L_transform_every_num_Num__0 → View → Prop) (mu_transform_every_num_Num__0 : Unit → L_transform_every_num_Num__0 → View → Nat)
  (h :
    I_transform_every_num_Num__0 () (L_transform_every_num_Num__0.mk 0 0 p1 ([] : List Value)) V ∧
    (∀ (x2 : L_transform_every_num_Num__0) (V1 : View), View.le V V1 → I_transform_every_num_Num__0 () x2 V1 →
      ((decide ((x2.t6 : Int) < (p0.len : Int))) = true →
        ((0 : Int) ≤ x2.t6 ∧ (x2.t6 : Int) < (p0.len : Nat) ∧ Option.isSome p0.a = true) ∧
      ∃ x3 : NumV, View.has V1 (Option.map (fun q => Addr.add q (Int.toNat x2.t6 * 5)) p0.a) (x3.val).cells.toList ∧ Option.isSome (Option.map (fun q => Addr.add q (Int.toNat x2.t6 * 5)) p0.a) = true ∧
      ∀ (b1 : Nat) (V2 : View), View.le V1 V2 → View.Fin V2 → V2 b1 = some #[.bool x3.re.neg, x3.re.mag.v, .bool x3.im.neg, x3.im.mag.v, x3.under.v] →
      ∃ (l1 : List Value) (l2 : List Value), LstOk 5 x2.t5l x2.t5c x2.o5 l1 ∧ View.has V2 (some (Addr.mk b1 0 none)) l2 ∧ List.length l2 = 1 * 5 ∧ (∀ v ∈ l2, Value.oneCell' v = true) ∧ x2.t5l + 1 ≤ maxLen ∧ (x2.t5l + 1) * 88 ≤ 140737488355328 ∧
      ∀ (c1 : Nat) (l3 : List Value), LstOk 5 (x2.t5l + 1) c1 l3 (l1 ++ l2) →
      I_transform_every_num_Num__0 () (L_transform_every_num_Num__0.mk (x2.t5l + 1) c1 (IntKind.i64.wrap (x2.t6 + 2)) l3) V2 ∧ mu_transform_every_num_Num__0 () (L_transform_every_num_Num__0.mk (x2.t5l + 1) c1 (IntKind.i64.wrap (x2.t6 + 2)) l3) V2 < mu_transform_every_num_Num__0 () x2 V1) ∧
      ((decide ((x2.t6 : Int) < (p0.len : Int))) = false →
        ∀ (b2 : Nat) (V3 : View), View.le V1 V3 → (x2.o5 ≠ [] → V3 b2 = some (List.toArray x2.o5)) →
    R ((Sl.mk (lstA b2 x2.t5c) x2.t5l x2.t5c).v) V3))) :
  CallV Try.prog 148 #[p0.v, .int .i64 p1] V R :=
  calls_of_vc (Shp := Shp) hmixed Try.func148 (c := Try.f148.body.getD .skip) (args := [p0.v, .int .i64 p1]) (by kernel_rfl)
    (.seq (.reg [⟨4, 2, false⟩]) (.seq (.reg [⟨5, 2, false⟩]) (.seq (.seq (.adopt 5 5 67 (.reg [⟨7, 2, false⟩, ⟨6, 2, false⟩])) (.block (.loop Unit L_transform_every_num_Num__0 (fun _ => ()) (fun c x => { tm := spT 22 0 [(0, .val (p0.v)), (5, .lst 5 x.t5l x.t5c), (6, .val (.int .i64 x.t6))], own := spO 22 0 [(5, ⟨67, .list x.o5⟩)] }) I_transform_every_num_Num__0 mu_transform_every_num_Num__0 (.seq (.seq (.reg [⟨8, 2, false⟩, ⟨9, 2, false⟩, ⟨10, 0, false⟩, ⟨11, 0, false⟩]) (.cond .leaf .leaf)) (.seq (.block (.reg [⟨14, 2, false⟩, ⟨15, 2, false⟩, ⟨16, 2, false⟩, ⟨17, 7, false⟩, ⟨18, 5, false⟩, ⟨19, 11, false⟩, ⟨5, 13, false⟩, ⟨5, 2, false⟩])) (.reg [⟨12, 2, false⟩, ⟨13, 0, false⟩, ⟨6, 2, false⟩])))))) (.seq (.reg [⟨21, 2, false⟩, ⟨4, 2, false⟩]) (.pub 5 .leaf)))))
    (Eq.mpr (by kernel_rfl) (show (∃ x1 : L_transform_every_num_Num__0, ((SV.val (p0.v) = SV.val (p0.v) ∧ SV.lst 5 0 0 = SV.lst 5 x1.t5l x1.t5c ∧ SV.val (.int .i64 p1) = SV.val (.int .i64 x1.t6) ∧ True) ∧ ((some (⟨67, .list ([] : List Value)⟩) : Option OB) = some (⟨67, .list x1.o5⟩) ∧ True)) ∧ I_transform_every_num_Num__0 () x1 V) ∧
    (∀ (x2 : L_transform_every_num_Num__0) (V1 : View), View.le V V1 → I_transform_every_num_Num__0 () x2 V1 →
      ((decide ((x2.t6 : Int) < (p0.len : Int))) = true →
        ((0 : Int) ≤ x2.t6 ∧ (x2.t6 : Int) < (p0.len : Nat) ∧ Option.isSome p0.a = true) ∧
      ∃ x3 : NumV, View.has V1 (Option.map (fun q => Addr.add q (Int.toNat x2.t6 * 5)) p0.a) (x3.val).cells.toList ∧ Option.isSome (Option.map (fun q => Addr.add q (Int.toNat x2.t6 * 5)) p0.a) = true ∧
      ∀ (b1 : Nat) (V2 : View), View.le V1 V2 → View.Fin V2 → V2 b1 = some #[.bool x3.re.neg, x3.re.mag.v, .bool x3.im.neg, x3.im.mag.v, x3.under.v] →
      ∃ (l1 : List Value) (l2 : List Value), LstOk 5 x2.t5l x2.t5c x2.o5 l1 ∧ View.has V2 (some (Addr.mk b1 0 none)) l2 ∧ List.length l2 = 1 * 5 ∧ (∀ v ∈ l2, Value.oneCell' v = true) ∧ x2.t5l + 1 ≤ maxLen ∧ (x2.t5l + 1) * 88 ≤ 140737488355328 ∧
      ∀ (c1 : Nat) (l3 : List Value), LstOk 5 (x2.t5l + 1) c1 l3 (l1 ++ l2) →
      ∃ x4 : L_transform_every_num_Num__0, ((SV.val (p0.v) = SV.val (p0.v) ∧ SV.lst 5 (x2.t5l + 1) c1 = SV.lst 5 x4.t5l x4.t5c ∧ SV.val (.int .i64 (IntKind.i64.wrap (x2.t6 + 2))) = SV.val (.int .i64 x4.t6) ∧ True) ∧ ((some (⟨67, .list l3⟩) : Option OB) = some (⟨67, .list x4.o5⟩) ∧ True)) ∧ I_transform_every_num_Num__0 () x4 V2 ∧ mu_transform_every_num_Num__0 () x4 V2 < mu_transform_every_num_Num__0 () x2 V1) ∧
      ((decide ((x2.t6 : Int) < (p0.len : Int))) = false →
        ∀ (b2 : Nat) (V3 : View), View.le V1 V3 → (x2.o5 ≠ [] → V3 b2 = some (List.toArray x2.o5)) →
    R ((Sl.mk (lstA b2 x2.t5c) x2.t5l x2.t5c).v) V3)) from ⟨⟨(L_transform_every_num_Num__0.mk 0 0 p1 ([] : List Value)), ⟨⟨rfl, rfl, rfl, trivial⟩, ⟨rfl, trivial⟩⟩, h.1⟩, fun x2 V1 h18 h19 => ⟨fun h17 => ⟨((h.2 x2 V1 h18 h19).1 h17).1, (match ((h.2 x2 V1 h18 h19).1 h17).2 with | ⟨x3, h13, h14, h12⟩ => ⟨x3, h13, h14, (fun b1 V2 h9 h10 h11 => (match (h12 b1 V2 h9 h10 h11) with | ⟨l1, l2, h3, h4, h5, h6, h7, h8, h2⟩ => ⟨l1, l2, h3, h4, h5, h6, h7, h8, (fun c1 l3 h1 => ⟨(L_transform_every_num_Num__0.mk (x2.t5l + 1) c1 (IntKind.i64.wrap (x2.t6 + 2)) l3), ⟨⟨rfl, rfl, rfl, trivial⟩, ⟨rfl, trivial⟩⟩, (h2 c1 l3 h1).1, (h2 c1 l3 h1).2⟩)⟩))⟩)⟩, fun h17 => (fun b2 V3 h15 h16 => (((h.2 x2 V1 h18 h19).2 h17) b2 V3 h15 h16))⟩⟩))

/-- waveport/transform.Fast[waveport/num.Num] -/
theorem transform_Fast_num_Num__vc (p0 : Sl) (p1 : Sl) (V : View) (R : Value → View → Prop) 
  (h :
    CallV Try.prog 107 #[p0.v, p1.v] V fun v V1 => ∃ r1 : Bool, v = .bool r1 ∧ -- transform.fits[num.Num]
    ((!r1) = true →
      R (.tuple #[(Sl.mk none 0 0).v, .int .i64 4]) V1) ∧
    ((!r1) = false →
      CallV Try.prog 108 #[p0.v, p1.v] V1 fun v V2 => ∃ r2 : Sl, v = r2.v ∧ -- transform.stage[num.Num]
    R (.tuple #[r2.v, .int .i64 0]) V2)) :
  CallV Try.prog 72 #[p0.v, p1.v] V R :=
  calls_of_vc (Shp := Shp) hmixed Try.func72 (c := Try.f72.body.getD .skip) (args := [p0.v, p1.v]) (by kernel_rfl)
    (.seq (.reg [⟨4, 2, false⟩, ⟨5, 2, false⟩]) (.seq (.seq (.reg [⟨6, 2, false⟩, ⟨7, 2, false⟩, ⟨8, 10, false⟩, ⟨9, 0, false⟩]) (.cond (.seq (.reg [⟨4, 2, false⟩, ⟨5, 2, false⟩]) .leaf) .leaf)) (.seq (.reg [⟨10, 2, false⟩, ⟨11, 2, false⟩, ⟨12, 10, false⟩, ⟨4, 2, false⟩, ⟨5, 2, false⟩]) .leaf)))
    (Eq.mpr (by kernel_rfl) h)

/-- waveport/transform.valid -/
theorem transform_valid_vc (p0 : GateV) (p1 : Int) (V : View) (R : Value → View → Prop) 
  (h :
    CallV Try.prog 58 #[.int .i64 p1] V fun v V1 => ∃ r1 : Bool, v = .bool r1 ∧ -- transform.length
    ((!r1) = true →
      R (.int .i64 4) V1) ∧
    ((!r1) = false →
      ((decide ((p0.from_ : Int) < 0)) = true →
      (true = true →
      (true = true →
      (true = true →
        R (.int .i64 1) V1) ∧
      (true = false →
        R (.int .i64 0) V1)) ∧
      (true = false →
      ((decide ((p0.count : Int) > p1)) = true →
        R (.int .i64 1) V1) ∧
      ((decide ((p0.count : Int) > p1)) = false →
        R (.int .i64 0) V1))) ∧
      (true = false →
      ((decide ((p0.count : Int) < 0)) = true →
      (true = true →
        R (.int .i64 1) V1) ∧
      (true = false →
        R (.int .i64 0) V1)) ∧
      ((decide ((p0.count : Int) < 0)) = false →
      ((decide ((p0.count : Int) > p1)) = true →
        R (.int .i64 1) V1) ∧
      ((decide ((p0.count : Int) > p1)) = false →
        R (.int .i64 0) V1)))) ∧
      ((decide ((p0.from_ : Int) < 0)) = false →
      ((decide ((p0.from_ : Int) ≥ p1)) = true →
      (true = true →
      (true = true →
        R (.int .i64 1) V1) ∧
      (true = false →
        R (.int .i64 0) V1)) ∧
      (true = false →
      ((decide ((p0.count : Int) > p1)) = true →
        R (.int .i64 1) V1) ∧
      ((decide ((p0.count : Int) > p1)) = false →
        R (.int .i64 0) V1))) ∧
      ((decide ((p0.from_ : Int) ≥ p1)) = false →
      ((decide ((p0.count : Int) < 0)) = true →
      (true = true →
        R (.int .i64 1) V1) ∧
      (true = false →
        R (.int .i64 0) V1)) ∧
      ((decide ((p0.count : Int) < 0)) = false →
      ((decide ((p0.count : Int) > p1)) = true →
        R (.int .i64 1) V1) ∧
      ((decide ((p0.count : Int) > p1)) = false →
        R (.int .i64 0) V1)))))) :
  CallV Try.prog 109 #[p0.val, .int .i64 p1] V R :=
  calls_of_vc (Shp := Shp) hmixed Try.func109 (c := Try.f109.body.getD .skip) (args := [p0.val, .int .i64 p1]) (by kernel_rfl)
    (.seq (.reg [⟨2, 3, false⟩, ⟨4, 2, false⟩]) (.seq (.block (.seq (.reg [⟨6, 2, false⟩, ⟨7, 10, false⟩, ⟨8, 0, false⟩, ⟨5, 2, false⟩]) (.cond (.seq (.reg [⟨4, 2, false⟩]) .leaf) (.seq (.reg [⟨10, 7, false⟩, ⟨2, 4, false⟩, ⟨12, 0, false⟩, ⟨13, 2, true⟩, ⟨14, 7, false⟩, ⟨2, 4, false⟩, ⟨16, 2, false⟩, ⟨17, 0, false⟩, ⟨18, 2, false⟩, ⟨19, 2, true⟩, ⟨20, 7, false⟩, ⟨2, 4, false⟩, ⟨22, 0, false⟩, ⟨23, 2, false⟩, ⟨24, 2, true⟩, ⟨25, 7, false⟩, ⟨2, 4, false⟩, ⟨27, 2, false⟩, ⟨28, 0, false⟩, ⟨29, 2, false⟩, ⟨9, 2, false⟩]) (.cond (.seq (.reg [⟨4, 2, false⟩]) .leaf) .leaf))))) (.seq (.reg [⟨4, 2, false⟩]) .leaf)))
    (Eq.mpr (by kernel_rfl) h)

/-- waveport/transform.Rest -/
theorem transform_Rest_vc (p0 : GateV) (p1 : Int) (V : View) (R : Value → View → Prop) 
  (h :
    CallV Try.prog 109 #[p0.val, .int .i64 p1] V fun v V1 => ∃ r1 : Int, v = .int .i64 r1 ∧ -- transform.valid
    (((r1 : Int) != 0) = true →
      R (.tuple #[(GateV.mk 0 0).val, .int .i64 r1]) V1) ∧
    (((r1 : Int) != 0) = false →
      (p1 : Int) ≠ 0 ∧
    R (.tuple #[(GateV.mk (Int.tmod (IntKind.i64.wrap (p0.from_ + p0.count)) p1) (IntKind.i64.wrap (p1 - p0.count))).val, .int .i64 0]) V1)) :
  CallV Try.prog 73 #[p0.val, .int .i64 p1] V R :=
  calls_of_vc (Shp := Shp) hmixed Try.func73 (c := Try.f73.body.getD .skip) (args := [p0.val, .int .i64 p1]) (by kernel_rfl)
    (.seq (.reg [⟨2, 3, false⟩, ⟨4, 3, false⟩, ⟨5, 2, false⟩]) (.seq (.seq (.reg [⟨2, 4, false⟩, ⟨8, 2, false⟩, ⟨9, 10, false⟩, ⟨6, 2, false⟩]) (.seq (.reg [⟨10, 2, false⟩, ⟨11, 0, false⟩]) (.cond (.seq (.reg [⟨12, 0, false⟩, ⟨13, 2, false⟩, ⟨4, 6, false⟩, ⟨5, 2, false⟩]) .leaf) .leaf))) (.seq (.draw [(0, ⟨14, 7, false⟩), (1, ⟨2, 4, false⟩), (2, ⟨16, 7, false⟩), (3, ⟨2, 4, false⟩), (4, ⟨18, 0, false⟩), (5, ⟨19, 2, false⟩), (6, ⟨20, 12, false⟩), (7, ⟨21, 2, false⟩), (8, ⟨22, 7, false⟩), (9, ⟨2, 4, false⟩), (10, ⟨24, 0, false⟩), (11, ⟨25, 0, false⟩), (12, ⟨4, 6, false⟩), (13, ⟨5, 2, false⟩)] [0, 1, 0, 4, 15, 0, 63, 0, 0, 256, 896, 2047, 4095, 8191]) .leaf)))
    (Eq.mpr (by kernel_rfl) h)

/-- waveport/waveportlaw07.awake -/
theorem waveportlaw07_awake_vc  (V : View) (R : Value → View → Prop) 
  (h :
    CallV Try.prog 18 #[.int .i64 4] V fun v V1 => ∃ (r1 : Sl) (r2 : Int), v = .tuple #[r1.v, .int .i64 r2] ∧ -- transform.Exact
    ∀ (b1 : Nat) (V2 : View), View.le V1 V2 → View.Fin V2 → V2 b1 = some #[.int .i64 1, .int .i64 0, .int .i64 0, .int .i64 2, .int .i64 0, .int .i64 0, .int .i64 3, .int .i64 0, .int .i64 0, .int .i64 4, .int .i64 0, .int .i64 0] →
    CallV Try.prog 26 #[(Sl.mk (some (Addr.mk b1 0 none)) 4 4).v] V2 fun v V3 => ∃ r3 : Sl, v = r3.v ∧ -- waveportlaw01.List
    CallV Try.prog 72 #[r3.v, r1.v] V3 fun v V4 => ∃ (r4 : Sl) (r5 : Int), v = .tuple #[r4.v, .int .i64 r5] ∧ -- transform.Fast[num.Num]
    CallV Try.prog 73 #[(GateV.mk 3 2).val, .int .i64 4] V4 fun v V5 => ∃ (r6 : GateV) (r7 : Int), v = .tuple #[r6.val, .int .i64 r7] ∧ -- transform.Rest
    (((r2 : Int) == 0) = true →
    (((r5 : Int) == 0) = true →
    (((r7 : Int) == 0) = true →
    ((((r4.len : Int) : Int) == 4) = true →
    ((0 : Int) ≤ 1 ∧ (1 : Int) < (r4.len : Nat) ∧ Option.isSome r4.a = true) ∧
    ∃ x1 : NumV, View.has V5 (Option.map (fun q => Addr.add q (Int.toNat 1 * 5)) r4.a) (x1.val).cells.toList ∧ Option.isSome (Option.map (fun q => Addr.add q (Int.toNat 1 * 5)) r4.a) = true ∧
    CallV Try.prog 74 #[x1.val] V5 fun v V6 => ∃ r8 : ByteArray, v = .string r8 ∧ -- (num.Num).Text
    ((ByteArray.toList r8 == ByteArray.toList (ByteArray.mk #[45, 50, 43, 50, 105])) = true →
    ∃ c1 : Bool, EqAt Try.prog 116 (r6.val) ((GateV.mk 1 2).val) c1 ∧
    R (.bool c1) V6) ∧
    ((ByteArray.toList r8 == ByteArray.toList (ByteArray.mk #[45, 50, 43, 50, 105])) = false →
    R (.bool false) V6)) ∧
    ((((r4.len : Int) : Int) == 4) = false →
    (false = true →
    ∃ c2 : Bool, EqAt Try.prog 116 (r6.val) ((GateV.mk 1 2).val) c2 ∧
    R (.bool c2) V5) ∧
    (false = false →
    R (.bool false) V5))) ∧
    (((r7 : Int) == 0) = false →
    (false = true →
    ((0 : Int) ≤ 1 ∧ (1 : Int) < (r4.len : Nat) ∧ Option.isSome r4.a = true) ∧
    ∃ x2 : NumV, View.has V5 (Option.map (fun q => Addr.add q (Int.toNat 1 * 5)) r4.a) (x2.val).cells.toList ∧ Option.isSome (Option.map (fun q => Addr.add q (Int.toNat 1 * 5)) r4.a) = true ∧
    CallV Try.prog 74 #[x2.val] V5 fun v V7 => ∃ r9 : ByteArray, v = .string r9 ∧ -- (num.Num).Text
    ((ByteArray.toList r9 == ByteArray.toList (ByteArray.mk #[45, 50, 43, 50, 105])) = true →
    ∃ c3 : Bool, EqAt Try.prog 116 (r6.val) ((GateV.mk 1 2).val) c3 ∧
    R (.bool c3) V7) ∧
    ((ByteArray.toList r9 == ByteArray.toList (ByteArray.mk #[45, 50, 43, 50, 105])) = false →
    R (.bool false) V7)) ∧
    (false = false →
    (false = true →
    ∃ c4 : Bool, EqAt Try.prog 116 (r6.val) ((GateV.mk 1 2).val) c4 ∧
    R (.bool c4) V5) ∧
    (false = false →
    R (.bool false) V5)))) ∧
    (((r5 : Int) == 0) = false →
    (false = true →
    ((((r4.len : Int) : Int) == 4) = true →
    ((0 : Int) ≤ 1 ∧ (1 : Int) < (r4.len : Nat) ∧ Option.isSome r4.a = true) ∧
    ∃ x3 : NumV, View.has V5 (Option.map (fun q => Addr.add q (Int.toNat 1 * 5)) r4.a) (x3.val).cells.toList ∧ Option.isSome (Option.map (fun q => Addr.add q (Int.toNat 1 * 5)) r4.a) = true ∧
    CallV Try.prog 74 #[x3.val] V5 fun v V8 => ∃ r10 : ByteArray, v = .string r10 ∧ -- (num.Num).Text
    ((ByteArray.toList r10 == ByteArray.toList (ByteArray.mk #[45, 50, 43, 50, 105])) = true →
    ∃ c5 : Bool, EqAt Try.prog 116 (r6.val) ((GateV.mk 1 2).val) c5 ∧
    R (.bool c5) V8) ∧
    ((ByteArray.toList r10 == ByteArray.toList (ByteArray.mk #[45, 50, 43, 50, 105])) = false →
    R (.bool false) V8)) ∧
    ((((r4.len : Int) : Int) == 4) = false →
    (false = true →
    ∃ c6 : Bool, EqAt Try.prog 116 (r6.val) ((GateV.mk 1 2).val) c6 ∧
    R (.bool c6) V5) ∧
    (false = false →
    R (.bool false) V5))) ∧
    (false = false →
    (false = true →
    ((0 : Int) ≤ 1 ∧ (1 : Int) < (r4.len : Nat) ∧ Option.isSome r4.a = true) ∧
    ∃ x4 : NumV, View.has V5 (Option.map (fun q => Addr.add q (Int.toNat 1 * 5)) r4.a) (x4.val).cells.toList ∧ Option.isSome (Option.map (fun q => Addr.add q (Int.toNat 1 * 5)) r4.a) = true ∧
    CallV Try.prog 74 #[x4.val] V5 fun v V9 => ∃ r11 : ByteArray, v = .string r11 ∧ -- (num.Num).Text
    ((ByteArray.toList r11 == ByteArray.toList (ByteArray.mk #[45, 50, 43, 50, 105])) = true →
    ∃ c7 : Bool, EqAt Try.prog 116 (r6.val) ((GateV.mk 1 2).val) c7 ∧
    R (.bool c7) V9) ∧
    ((ByteArray.toList r11 == ByteArray.toList (ByteArray.mk #[45, 50, 43, 50, 105])) = false →
    R (.bool false) V9)) ∧
    (false = false →
    (false = true →
    ∃ c8 : Bool, EqAt Try.prog 116 (r6.val) ((GateV.mk 1 2).val) c8 ∧
    R (.bool c8) V5) ∧
    (false = false →
    R (.bool false) V5))))) ∧
    (((r2 : Int) == 0) = false →
    (false = true →
    (((r7 : Int) == 0) = true →
    ((((r4.len : Int) : Int) == 4) = true →
    ((0 : Int) ≤ 1 ∧ (1 : Int) < (r4.len : Nat) ∧ Option.isSome r4.a = true) ∧
    ∃ x5 : NumV, View.has V5 (Option.map (fun q => Addr.add q (Int.toNat 1 * 5)) r4.a) (x5.val).cells.toList ∧ Option.isSome (Option.map (fun q => Addr.add q (Int.toNat 1 * 5)) r4.a) = true ∧
    CallV Try.prog 74 #[x5.val] V5 fun v V10 => ∃ r12 : ByteArray, v = .string r12 ∧ -- (num.Num).Text
    ((ByteArray.toList r12 == ByteArray.toList (ByteArray.mk #[45, 50, 43, 50, 105])) = true →
    ∃ c9 : Bool, EqAt Try.prog 116 (r6.val) ((GateV.mk 1 2).val) c9 ∧
    R (.bool c9) V10) ∧
    ((ByteArray.toList r12 == ByteArray.toList (ByteArray.mk #[45, 50, 43, 50, 105])) = false →
    R (.bool false) V10)) ∧
    ((((r4.len : Int) : Int) == 4) = false →
    (false = true →
    ∃ c10 : Bool, EqAt Try.prog 116 (r6.val) ((GateV.mk 1 2).val) c10 ∧
    R (.bool c10) V5) ∧
    (false = false →
    R (.bool false) V5))) ∧
    (((r7 : Int) == 0) = false →
    (false = true →
    ((0 : Int) ≤ 1 ∧ (1 : Int) < (r4.len : Nat) ∧ Option.isSome r4.a = true) ∧
    ∃ x6 : NumV, View.has V5 (Option.map (fun q => Addr.add q (Int.toNat 1 * 5)) r4.a) (x6.val).cells.toList ∧ Option.isSome (Option.map (fun q => Addr.add q (Int.toNat 1 * 5)) r4.a) = true ∧
    CallV Try.prog 74 #[x6.val] V5 fun v V11 => ∃ r13 : ByteArray, v = .string r13 ∧ -- (num.Num).Text
    ((ByteArray.toList r13 == ByteArray.toList (ByteArray.mk #[45, 50, 43, 50, 105])) = true →
    ∃ c11 : Bool, EqAt Try.prog 116 (r6.val) ((GateV.mk 1 2).val) c11 ∧
    R (.bool c11) V11) ∧
    ((ByteArray.toList r13 == ByteArray.toList (ByteArray.mk #[45, 50, 43, 50, 105])) = false →
    R (.bool false) V11)) ∧
    (false = false →
    (false = true →
    ∃ c12 : Bool, EqAt Try.prog 116 (r6.val) ((GateV.mk 1 2).val) c12 ∧
    R (.bool c12) V5) ∧
    (false = false →
    R (.bool false) V5)))) ∧
    (false = false →
    (false = true →
    ((((r4.len : Int) : Int) == 4) = true →
    ((0 : Int) ≤ 1 ∧ (1 : Int) < (r4.len : Nat) ∧ Option.isSome r4.a = true) ∧
    ∃ x7 : NumV, View.has V5 (Option.map (fun q => Addr.add q (Int.toNat 1 * 5)) r4.a) (x7.val).cells.toList ∧ Option.isSome (Option.map (fun q => Addr.add q (Int.toNat 1 * 5)) r4.a) = true ∧
    CallV Try.prog 74 #[x7.val] V5 fun v V12 => ∃ r14 : ByteArray, v = .string r14 ∧ -- (num.Num).Text
    ((ByteArray.toList r14 == ByteArray.toList (ByteArray.mk #[45, 50, 43, 50, 105])) = true →
    ∃ c13 : Bool, EqAt Try.prog 116 (r6.val) ((GateV.mk 1 2).val) c13 ∧
    R (.bool c13) V12) ∧
    ((ByteArray.toList r14 == ByteArray.toList (ByteArray.mk #[45, 50, 43, 50, 105])) = false →
    R (.bool false) V12)) ∧
    ((((r4.len : Int) : Int) == 4) = false →
    (false = true →
    ∃ c14 : Bool, EqAt Try.prog 116 (r6.val) ((GateV.mk 1 2).val) c14 ∧
    R (.bool c14) V5) ∧
    (false = false →
    R (.bool false) V5))) ∧
    (false = false →
    (false = true →
    ((0 : Int) ≤ 1 ∧ (1 : Int) < (r4.len : Nat) ∧ Option.isSome r4.a = true) ∧
    ∃ x8 : NumV, View.has V5 (Option.map (fun q => Addr.add q (Int.toNat 1 * 5)) r4.a) (x8.val).cells.toList ∧ Option.isSome (Option.map (fun q => Addr.add q (Int.toNat 1 * 5)) r4.a) = true ∧
    CallV Try.prog 74 #[x8.val] V5 fun v V13 => ∃ r15 : ByteArray, v = .string r15 ∧ -- (num.Num).Text
    ((ByteArray.toList r15 == ByteArray.toList (ByteArray.mk #[45, 50, 43, 50, 105])) = true →
    ∃ c15 : Bool, EqAt Try.prog 116 (r6.val) ((GateV.mk 1 2).val) c15 ∧
    R (.bool c15) V13) ∧
    ((ByteArray.toList r15 == ByteArray.toList (ByteArray.mk #[45, 50, 43, 50, 105])) = false →
    R (.bool false) V13)) ∧
    (false = false →
    (false = true →
    ∃ c16 : Bool, EqAt Try.prog 116 (r6.val) ((GateV.mk 1 2).val) c16 ∧
    R (.bool c16) V5) ∧
    (false = false →
    R (.bool false) V5)))))) :
  CallV Try.prog 23 #[] V R :=
  calls_of_vc (Shp := Shp) hmixed Try.func23 (c := Try.f23.body.getD .skip) (args := []) (by kernel_rfl)
    (.seq (.reg [⟨0, 2, false⟩]) (.seq (.reg [⟨8, 10, false⟩, ⟨7, 2, false⟩, ⟨9, 0, false⟩, ⟨10, 0, false⟩, ⟨1, 2, false⟩, ⟨2, 2, false⟩]) (.seq (.reg [⟨12, 0, false⟩, ⟨13, 0, false⟩, ⟨14, 0, false⟩, ⟨15, 0, false⟩, ⟨16, 11, false⟩, ⟨17, 10, false⟩, ⟨18, 2, false⟩, ⟨19, 10, false⟩, ⟨11, 2, false⟩, ⟨20, 0, false⟩, ⟨21, 0, false⟩, ⟨3, 2, false⟩, ⟨4, 2, false⟩]) (.seq (.reg [⟨23, 0, false⟩, ⟨24, 10, false⟩, ⟨22, 2, false⟩, ⟨25, 0, false⟩, ⟨26, 0, false⟩, ⟨5, 3, false⟩, ⟨5, 6, false⟩, ⟨6, 2, false⟩]) (.seq (.reg [⟨27, 2, false⟩, ⟨28, 0, false⟩, ⟨29, 2, true⟩, ⟨30, 2, false⟩, ⟨31, 0, false⟩, ⟨32, 2, false⟩, ⟨33, 2, true⟩, ⟨34, 2, false⟩, ⟨35, 0, false⟩, ⟨36, 2, false⟩, ⟨37, 2, true⟩, ⟨38, 2, false⟩, ⟨39, 0, false⟩, ⟨40, 0, false⟩, ⟨41, 2, false⟩, ⟨42, 2, true⟩, ⟨43, 2, false⟩, ⟨44, 7, false⟩, ⟨45, 5, false⟩, ⟨46, 10, false⟩, ⟨47, 0, false⟩, ⟨48, 2, false⟩, ⟨49, 2, true⟩, ⟨5, 4, false⟩, ⟨51, 0, false⟩, ⟨52, 12, false⟩, ⟨53, 2, false⟩, ⟨0, 2, false⟩]) .leaf)))))
    (Eq.mpr (by kernel_rfl) h)

end Go.Proofs.Ytcapadojlaojkaa

set_option maxRecDepth 100000
set_option maxHeartbeats 4000000
namespace Go.Proofs.Ytcapadojlaojkaa
open Go Go.Vc Go.Proofs

structure L_transform_stage_num_Num__0 where
  t36 : Int
  o15 : List Value
structure C_transform_stage_num_Num__0 where
  t8 : Sl
  t9 : Sl
/-- waveport/transform.stage[waveport/num.Num] -/
theorem transform_stage_num_Num__vc (p0 : Sl) (p1 : Sl) (V : View) (R : Nat → Nat → List Value → List Value → View → Prop) (I_transform_stage_num_Num__0 : C_transform_stage_num_Num__0 → L_transform_stage_num_Num__0 → View → Prop) (mu_transform_stage_num_Num__0 : C_transform_stage_num_Num__0 → L_transform_stage_num_Num__0 → View → Nat)
  (h :
    ((0 : Int) ≤ (p0.len : Int) ∧ ((p0.len : Int) : Int) ≤ (p0.len : Int) ∧ (88 : Int) * (p0.len : Int) ≤ 281474976710656 ∧ ((p0.len : Int) : Int) ≤ 9223372036854775807) ∧
    ((((p0.len : Int) : Int) == 1) = true →
      ((0 : Int) ≤ 0 ∧ (0 : Int) < (p0.len : Nat) ∧ Option.isSome p0.a = true) ∧
      ∃ x1 : NumV, View.has V (Option.map (fun q => Addr.add q (Int.toNat 0 * 5)) p0.a) (x1.val).cells.toList ∧ Option.isSome (Option.map (fun q => Addr.add q (Int.toNat 0 * 5)) p0.a) = true ∧
      ((0 : Int) ≤ 0 ∧ (0 : Int) < (Int.toNat (p0.len : Int) : Nat)) ∧
      0 + Int.toNat 0 * 5 + 5 ≤ List.length ((List.replicate (Int.toNat (p0.len : Int)) [Value.bool false, Value.slice none 0 0, Value.bool false, Value.slice none 0 0, Value.slice none 0 0]).flatten) ∧
      ((Int.toNat (p0.len : Int)) ≠ 0 ∧ (setL ((List.replicate (Int.toNat (p0.len : Int)) [Value.bool false, Value.slice none 0 0, Value.bool false, Value.slice none 0 0, Value.slice none 0 0]).flatten) (0 + Int.toNat 0 * 5) [.bool x1.re.neg, x1.re.mag.v, .bool x1.im.neg, x1.im.mag.v, x1.under.v]) ≠ []) ∧ R (Int.toNat (p0.len : Int)) (Int.toNat (p0.len : Int)) (setL ((List.replicate (Int.toNat (p0.len : Int)) [Value.bool false, Value.slice none 0 0, Value.bool false, Value.slice none 0 0, Value.slice none 0 0]).flatten) (0 + Int.toNat 0 * 5) [.bool x1.re.neg, x1.re.mag.v, .bool x1.im.neg, x1.im.mag.v, x1.under.v]) [] V) ∧
    ((((p0.len : Int) : Int) == 1) = false →
      CallV Try.prog 148 #[p1.v, .int .i64 0] V fun v V1 => ∃ r1 : Sl, v = r1.v ∧ -- transform.every[num.Num]
    CallV Try.prog 148 #[p0.v, .int .i64 0] V1 fun v V2 => ∃ r2 : Sl, v = r2.v ∧ -- transform.every[num.Num]
    CallV Try.prog 108 #[r2.v, r1.v] V2 fun v V3 => ∃ r3 : Sl, v = r3.v ∧ -- transform.stage[num.Num]
    CallV Try.prog 148 #[p0.v, .int .i64 1] V3 fun v V4 => ∃ r4 : Sl, v = r4.v ∧ -- transform.every[num.Num]
    CallV Try.prog 108 #[r4.v, r1.v] V4 fun v V5 => ∃ r5 : Sl, v = r5.v ∧ -- transform.stage[num.Num]
    I_transform_stage_num_Num__0 (C_transform_stage_num_Num__0.mk r3 r5) (L_transform_stage_num_Num__0.mk 0 ((List.replicate (Int.toNat (p0.len : Int)) [Value.bool false, Value.slice none 0 0, Value.bool false, Value.slice none 0 0, Value.slice none 0 0]).flatten)) V5 ∧
    (∀ (x3 : L_transform_stage_num_Num__0) (V6 : View), View.le V5 V6 → I_transform_stage_num_Num__0 (C_transform_stage_num_Num__0.mk r3 r5) x3 V6 →
      ((decide ((x3.t36 : Int) < (IntKind.i64.wrap (Int.tdiv (p0.len : Int) 2)))) = true →
        ((0 : Int) ≤ x3.t36 ∧ (x3.t36 : Int) < (r5.len : Nat) ∧ Option.isSome r5.a = true) ∧
      ∃ x4 : NumV, View.has V6 (Option.map (fun q => Addr.add q (Int.toNat x3.t36 * 5)) r5.a) (x4.val).cells.toList ∧ Option.isSome (Option.map (fun q => Addr.add q (Int.toNat x3.t36 * 5)) r5.a) = true ∧
      ((0 : Int) ≤ x3.t36 ∧ (x3.t36 : Int) < (p1.len : Nat) ∧ Option.isSome p1.a = true) ∧
      ∃ x5 : NumV, View.has V6 (Option.map (fun q => Addr.add q (Int.toNat x3.t36 * 5)) p1.a) (x5.val).cells.toList ∧ Option.isSome (Option.map (fun q => Addr.add q (Int.toNat x3.t36 * 5)) p1.a) = true ∧
      CallV Try.prog 67 #[x4.val, x5.val] V6 fun v V7 => ∃ r6 : NumV, v = r6.val ∧ -- (num.Num).Mul
      ((0 : Int) ≤ x3.t36 ∧ (x3.t36 : Int) < (r3.len : Nat) ∧ Option.isSome r3.a = true) ∧
      ∃ x6 : NumV, View.has V7 (Option.map (fun q => Addr.add q (Int.toNat x3.t36 * 5)) r3.a) (x6.val).cells.toList ∧ Option.isSome (Option.map (fun q => Addr.add q (Int.toNat x3.t36 * 5)) r3.a) = true ∧
      ((0 : Int) ≤ x3.t36 ∧ (x3.t36 : Int) < (r3.len : Nat) ∧ Option.isSome r3.a = true) ∧
      ∃ x7 : NumV, View.has V7 (Option.map (fun q => Addr.add q (Int.toNat x3.t36 * 5)) r3.a) (x7.val).cells.toList ∧ Option.isSome (Option.map (fun q => Addr.add q (Int.toNat x3.t36 * 5)) r3.a) = true ∧
      CallV Try.prog 102 #[x6.val, r6.val] V7 fun v V8 => ∃ r7 : NumV, v = r7.val ∧ -- (num.Num).Add
      CallV Try.prog 66 #[x7.val, r6.val] V8 fun v V9 => ∃ r8 : NumV, v = r8.val ∧ -- (num.Num).Sub
      ((0 : Int) ≤ x3.t36 ∧ (x3.t36 : Int) < (Int.toNat (p0.len : Int) : Nat)) ∧
      0 + Int.toNat x3.t36 * 5 + 5 ≤ List.length x3.o15 ∧
      ((0 : Int) ≤ (IntKind.i64.wrap (x3.t36 + (IntKind.i64.wrap (Int.tdiv (p0.len : Int) 2)))) ∧ ((IntKind.i64.wrap (x3.t36 + (IntKind.i64.wrap (Int.tdiv (p0.len : Int) 2)))) : Int) < (Int.toNat (p0.len : Int) : Nat)) ∧
      0 + Int.toNat (IntKind.i64.wrap (x3.t36 + (IntKind.i64.wrap (Int.tdiv (p0.len : Int) 2)))) * 5 + 5 ≤ List.length (setL x3.o15 (0 + Int.toNat x3.t36 * 5) [.bool r7.re.neg, r7.re.mag.v, .bool r7.im.neg, r7.im.mag.v, r7.under.v]) ∧
      I_transform_stage_num_Num__0 (C_transform_stage_num_Num__0.mk r3 r5) (L_transform_stage_num_Num__0.mk (IntKind.i64.wrap (x3.t36 + 1)) (setL (setL x3.o15 (0 + Int.toNat x3.t36 * 5) [.bool r7.re.neg, r7.re.mag.v, .bool r7.im.neg, r7.im.mag.v, r7.under.v]) (0 + Int.toNat (IntKind.i64.wrap (x3.t36 + (IntKind.i64.wrap (Int.tdiv (p0.len : Int) 2)))) * 5) [.bool r8.re.neg, r8.re.mag.v, .bool r8.im.neg, r8.im.mag.v, r8.under.v])) V9 ∧ mu_transform_stage_num_Num__0 (C_transform_stage_num_Num__0.mk r3 r5) (L_transform_stage_num_Num__0.mk (IntKind.i64.wrap (x3.t36 + 1)) (setL (setL x3.o15 (0 + Int.toNat x3.t36 * 5) [.bool r7.re.neg, r7.re.mag.v, .bool r7.im.neg, r7.im.mag.v, r7.under.v]) (0 + Int.toNat (IntKind.i64.wrap (x3.t36 + (IntKind.i64.wrap (Int.tdiv (p0.len : Int) 2)))) * 5) [.bool r8.re.neg, r8.re.mag.v, .bool r8.im.neg, r8.im.mag.v, r8.under.v])) V9 < mu_transform_stage_num_Num__0 (C_transform_stage_num_Num__0.mk r3 r5) x3 V6) ∧
      ((decide ((x3.t36 : Int) < (IntKind.i64.wrap (Int.tdiv (p0.len : Int) 2)))) = false →
        ((Int.toNat (p0.len : Int)) ≠ 0 ∧ x3.o15 ≠ []) ∧ R (Int.toNat (p0.len : Int)) (Int.toNat (p0.len : Int)) x3.o15 [] V6)))) :
  CallO Try.prog 108 #[p0.v, p1.v] 67 V R :=
  calls_of_vcO (Shp := Shp) hmixed Try.func108 (c := Try.f108.body.getD .skip) (args := [p0.v, p1.v]) (by kernel_rfl)
    (.seq (.reg [⟨4, 2, false⟩]) (.seq (.reg [⟨12, 2, false⟩, ⟨13, 0, false⟩, ⟨5, 2, false⟩]) (.seq (.reg [⟨14, 2, false⟩, ⟨15, 3, false⟩, ⟨6, 2, false⟩]) (.seq (.seq (.reg [⟨16, 2, false⟩, ⟨17, 0, false⟩]) (.cond (.seq (.reg [⟨18, 2, false⟩, ⟨19, 2, false⟩, ⟨20, 7, false⟩, ⟨21, 5, false⟩, ⟨22, 7, false⟩, ⟨15, 6, false⟩]) (.seq (.reg [⟨23, 2, false⟩, ⟨4, 2, false⟩]) .leaf)) .leaf)) (.seq (.reg [⟨24, 2, false⟩, ⟨25, 10, false⟩, ⟨7, 2, false⟩]) (.seq (.reg [⟨26, 2, false⟩, ⟨27, 10, false⟩, ⟨28, 2, false⟩, ⟨29, 10, false⟩, ⟨30, 2, false⟩, ⟨31, 10, false⟩, ⟨32, 2, false⟩, ⟨33, 10, false⟩, ⟨8, 2, false⟩, ⟨9, 2, false⟩]) (.seq (.seq (.reg [⟨34, 2, false⟩, ⟨35, 0, false⟩, ⟨36, 2, false⟩]) (.block (.loop C_transform_stage_num_Num__0 L_transform_stage_num_Num__0 (fun σ => C_transform_stage_num_Num__0.mk (Sl.mk (gSlA (gTm σ 8)) (gSlL (gTm σ 8)) (gSlC (gTm σ 8))) (Sl.mk (gSlA (gTm σ 9)) (gSlL (gTm σ 9)) (gSlC (gTm σ 9)))) (fun c x => { tm := spT 74 0 [(1, .val (p1.v)), (5, .val (.int .i64 (p0.len : Int))), (6, .osl 15 0 (Int.toNat (p0.len : Int)) (Int.toNat (p0.len : Int))), (8, .val (c.t8.v)), (9, .val (c.t9.v)), (35, .val (.int .i64 (IntKind.i64.wrap (Int.tdiv (p0.len : Int) 2)))), (36, .val (.int .i64 x.t36))], own := spO 74 0 [(15, ⟨67, .dyn x.o15⟩)] }) I_transform_stage_num_Num__0 mu_transform_stage_num_Num__0 (.seq (.reg [⟨37, 0, false⟩]) (.seq (.cond .leaf .leaf) (.seq (.block (.seq (.reg [⟨38, 2, false⟩, ⟨10, 2, false⟩]) (.seq (.draw [(0, ⟨39, 2, false⟩), (1, ⟨40, 2, false⟩), (2, ⟨41, 7, false⟩), (3, ⟨42, 5, false⟩), (4, ⟨43, 0, false⟩), (5, ⟨44, 2, false⟩), (6, ⟨45, 2, false⟩), (7, ⟨46, 7, false⟩), (8, ⟨47, 5, false⟩), (10, ⟨11, 3, false⟩), (9, ⟨48, 10, false⟩), (11, ⟨11, 6, false⟩)] [0, 0, 3, 7, 15, 0, 0, 96, 224, 511, 0, 2047]) (.draw [(0, ⟨49, 2, false⟩), (1, ⟨50, 2, false⟩), (2, ⟨51, 2, false⟩), (3, ⟨52, 2, false⟩), (4, ⟨53, 2, false⟩), (5, ⟨54, 0, false⟩), (6, ⟨55, 0, false⟩), (7, ⟨56, 2, false⟩), (8, ⟨57, 2, false⟩), (9, ⟨58, 7, false⟩), (10, ⟨59, 5, false⟩), (11, ⟨60, 0, false⟩), (12, ⟨11, 4, false⟩), (14, ⟨63, 2, false⟩), (15, ⟨64, 2, false⟩), (16, ⟨65, 7, false⟩), (17, ⟨66, 5, false⟩), (18, ⟨67, 0, false⟩), (19, ⟨11, 4, false⟩), (13, ⟨62, 10, false⟩), (20, ⟨69, 10, false⟩), (21, ⟨70, 7, false⟩), (22, ⟨15, 6, false⟩), (23, ⟨71, 7, false⟩), (24, ⟨15, 6, false⟩)] [0, 0, 0, 0, 0, 16, 56, 0, 0, 384, 896, 1920, 0, 8064, 0, 0, 49152, 114688, 245760, 0, 1048448, 2097027, 4194179, 8388607, 16777215])))) (.reg [⟨72, 0, false⟩, ⟨36, 2, false⟩]))))))) (.seq (.reg [⟨73, 2, false⟩, ⟨4, 2, false⟩]) .leaf))))))))
    (Eq.mpr (by kernel_rfl) (show ((0 : Int) ≤ (p0.len : Int) ∧ ((p0.len : Int) : Int) ≤ (p0.len : Int) ∧ (88 : Int) * (p0.len : Int) ≤ 281474976710656 ∧ ((p0.len : Int) : Int) ≤ 9223372036854775807) ∧
    ((((p0.len : Int) : Int) == 1) = true →
      ((0 : Int) ≤ 0 ∧ (0 : Int) < (p0.len : Nat) ∧ Option.isSome p0.a = true) ∧
      ∃ x1 : NumV, View.has V (Option.map (fun q => Addr.add q (Int.toNat 0 * 5)) p0.a) (x1.val).cells.toList ∧ Option.isSome (Option.map (fun q => Addr.add q (Int.toNat 0 * 5)) p0.a) = true ∧
      ((0 : Int) ≤ 0 ∧ (0 : Int) < (Int.toNat (p0.len : Int) : Nat)) ∧
      0 + Int.toNat 0 * 5 + 5 ≤ List.length ((List.replicate (Int.toNat (p0.len : Int)) [Value.bool false, Value.slice none 0 0, Value.bool false, Value.slice none 0 0, Value.slice none 0 0]).flatten) ∧
      ((Int.toNat (p0.len : Int)) ≠ 0 ∧ (setL ((List.replicate (Int.toNat (p0.len : Int)) [Value.bool false, Value.slice none 0 0, Value.bool false, Value.slice none 0 0, Value.slice none 0 0]).flatten) (0 + Int.toNat 0 * 5) [.bool x1.re.neg, x1.re.mag.v, .bool x1.im.neg, x1.im.mag.v, x1.under.v]) ≠ []) ∧ R (Int.toNat (p0.len : Int)) (Int.toNat (p0.len : Int)) (setL ((List.replicate (Int.toNat (p0.len : Int)) [Value.bool false, Value.slice none 0 0, Value.bool false, Value.slice none 0 0, Value.slice none 0 0]).flatten) (0 + Int.toNat 0 * 5) [.bool x1.re.neg, x1.re.mag.v, .bool x1.im.neg, x1.im.mag.v, x1.under.v]) [] V) ∧
    ((((p0.len : Int) : Int) == 1) = false →
      CallV Try.prog 148 #[p1.v, .int .i64 0] V fun v V1 => ∃ r1 : Sl, v = r1.v ∧ -- transform.every[num.Num]
    CallV Try.prog 148 #[p0.v, .int .i64 0] V1 fun v V2 => ∃ r2 : Sl, v = r2.v ∧ -- transform.every[num.Num]
    CallV Try.prog 108 #[r2.v, r1.v] V2 fun v V3 => ∃ r3 : Sl, v = r3.v ∧ -- transform.stage[num.Num]
    CallV Try.prog 148 #[p0.v, .int .i64 1] V3 fun v V4 => ∃ r4 : Sl, v = r4.v ∧ -- transform.every[num.Num]
    CallV Try.prog 108 #[r4.v, r1.v] V4 fun v V5 => ∃ r5 : Sl, v = r5.v ∧ -- transform.stage[num.Num]
    (∃ x2 : L_transform_stage_num_Num__0, ((SV.val (p1.v) = SV.val (p1.v) ∧ SV.val (.int .i64 (p0.len : Int)) = SV.val (.int .i64 (p0.len : Int)) ∧ SV.osl 15 0 (Int.toNat (p0.len : Int)) (Int.toNat (p0.len : Int)) = SV.osl 15 0 (Int.toNat (p0.len : Int)) (Int.toNat (p0.len : Int)) ∧ SV.val (r3.v) = SV.val (r3.v) ∧ SV.val (r5.v) = SV.val (r5.v) ∧ SV.val (.int .i64 (IntKind.i64.wrap (Int.tdiv (p0.len : Int) 2))) = SV.val (.int .i64 (IntKind.i64.wrap (Int.tdiv (p0.len : Int) 2))) ∧ SV.val (.int .i64 0) = SV.val (.int .i64 x2.t36) ∧ True) ∧ ((some (⟨67, .dyn ((List.replicate (Int.toNat (p0.len : Int)) [Value.bool false, Value.slice none 0 0, Value.bool false, Value.slice none 0 0, Value.slice none 0 0]).flatten)⟩) : Option OB) = some (⟨67, .dyn x2.o15⟩) ∧ True)) ∧ I_transform_stage_num_Num__0 (C_transform_stage_num_Num__0.mk r3 r5) x2 V5) ∧
    (∀ (x3 : L_transform_stage_num_Num__0) (V6 : View), View.le V5 V6 → I_transform_stage_num_Num__0 (C_transform_stage_num_Num__0.mk r3 r5) x3 V6 →
      ((decide ((x3.t36 : Int) < (IntKind.i64.wrap (Int.tdiv (p0.len : Int) 2)))) = true →
        ((0 : Int) ≤ x3.t36 ∧ (x3.t36 : Int) < (r5.len : Nat) ∧ Option.isSome r5.a = true) ∧
      ∃ x4 : NumV, View.has V6 (Option.map (fun q => Addr.add q (Int.toNat x3.t36 * 5)) r5.a) (x4.val).cells.toList ∧ Option.isSome (Option.map (fun q => Addr.add q (Int.toNat x3.t36 * 5)) r5.a) = true ∧
      ((0 : Int) ≤ x3.t36 ∧ (x3.t36 : Int) < (p1.len : Nat) ∧ Option.isSome p1.a = true) ∧
      ∃ x5 : NumV, View.has V6 (Option.map (fun q => Addr.add q (Int.toNat x3.t36 * 5)) p1.a) (x5.val).cells.toList ∧ Option.isSome (Option.map (fun q => Addr.add q (Int.toNat x3.t36 * 5)) p1.a) = true ∧
      CallV Try.prog 67 #[x4.val, x5.val] V6 fun v V7 => ∃ r6 : NumV, v = r6.val ∧ -- (num.Num).Mul
      ((0 : Int) ≤ x3.t36 ∧ (x3.t36 : Int) < (r3.len : Nat) ∧ Option.isSome r3.a = true) ∧
      ∃ x6 : NumV, View.has V7 (Option.map (fun q => Addr.add q (Int.toNat x3.t36 * 5)) r3.a) (x6.val).cells.toList ∧ Option.isSome (Option.map (fun q => Addr.add q (Int.toNat x3.t36 * 5)) r3.a) = true ∧
      ((0 : Int) ≤ x3.t36 ∧ (x3.t36 : Int) < (r3.len : Nat) ∧ Option.isSome r3.a = true) ∧
      ∃ x7 : NumV, View.has V7 (Option.map (fun q => Addr.add q (Int.toNat x3.t36 * 5)) r3.a) (x7.val).cells.toList ∧ Option.isSome (Option.map (fun q => Addr.add q (Int.toNat x3.t36 * 5)) r3.a) = true ∧
      CallV Try.prog 102 #[x6.val, r6.val] V7 fun v V8 => ∃ r7 : NumV, v = r7.val ∧ -- (num.Num).Add
      CallV Try.prog 66 #[x7.val, r6.val] V8 fun v V9 => ∃ r8 : NumV, v = r8.val ∧ -- (num.Num).Sub
      ((0 : Int) ≤ x3.t36 ∧ (x3.t36 : Int) < (Int.toNat (p0.len : Int) : Nat)) ∧
      0 + Int.toNat x3.t36 * 5 + 5 ≤ List.length x3.o15 ∧
      ((0 : Int) ≤ (IntKind.i64.wrap (x3.t36 + (IntKind.i64.wrap (Int.tdiv (p0.len : Int) 2)))) ∧ ((IntKind.i64.wrap (x3.t36 + (IntKind.i64.wrap (Int.tdiv (p0.len : Int) 2)))) : Int) < (Int.toNat (p0.len : Int) : Nat)) ∧
      0 + Int.toNat (IntKind.i64.wrap (x3.t36 + (IntKind.i64.wrap (Int.tdiv (p0.len : Int) 2)))) * 5 + 5 ≤ List.length (setL x3.o15 (0 + Int.toNat x3.t36 * 5) [.bool r7.re.neg, r7.re.mag.v, .bool r7.im.neg, r7.im.mag.v, r7.under.v]) ∧
      ∃ x8 : L_transform_stage_num_Num__0, ((SV.val (p1.v) = SV.val (p1.v) ∧ SV.val (.int .i64 (p0.len : Int)) = SV.val (.int .i64 (p0.len : Int)) ∧ SV.osl 15 0 (Int.toNat (p0.len : Int)) (Int.toNat (p0.len : Int)) = SV.osl 15 0 (Int.toNat (p0.len : Int)) (Int.toNat (p0.len : Int)) ∧ SV.val (r3.v) = SV.val (r3.v) ∧ SV.val (r5.v) = SV.val (r5.v) ∧ SV.val (.int .i64 (IntKind.i64.wrap (Int.tdiv (p0.len : Int) 2))) = SV.val (.int .i64 (IntKind.i64.wrap (Int.tdiv (p0.len : Int) 2))) ∧ SV.val (.int .i64 (IntKind.i64.wrap (x3.t36 + 1))) = SV.val (.int .i64 x8.t36) ∧ True) ∧ ((some (⟨67, .dyn (setL (setL x3.o15 (0 + Int.toNat x3.t36 * 5) [.bool r7.re.neg, r7.re.mag.v, .bool r7.im.neg, r7.im.mag.v, r7.under.v]) (0 + Int.toNat (IntKind.i64.wrap (x3.t36 + (IntKind.i64.wrap (Int.tdiv (p0.len : Int) 2)))) * 5) [.bool r8.re.neg, r8.re.mag.v, .bool r8.im.neg, r8.im.mag.v, r8.under.v])⟩) : Option OB) = some (⟨67, .dyn x8.o15⟩) ∧ True)) ∧ I_transform_stage_num_Num__0 (C_transform_stage_num_Num__0.mk r3 r5) x8 V9 ∧ mu_transform_stage_num_Num__0 (C_transform_stage_num_Num__0.mk r3 r5) x8 V9 < mu_transform_stage_num_Num__0 (C_transform_stage_num_Num__0.mk r3 r5) x3 V6) ∧
      ((decide ((x3.t36 : Int) < (IntKind.i64.wrap (Int.tdiv (p0.len : Int) 2)))) = false →
        ((Int.toNat (p0.len : Int)) ≠ 0 ∧ x3.o15 ≠ []) ∧ R (Int.toNat (p0.len : Int)) (Int.toNat (p0.len : Int)) x3.o15 [] V6))) from ⟨h.1, ⟨fun h35 => ⟨(h.2.1 h35).1, (match (h.2.1 h35).2 with | ⟨x1, h2, h3, h1⟩ => ⟨x1, h2, h3, ⟨h1.1, ⟨h1.2.1, h1.2.2⟩⟩⟩)⟩, fun h35 => (CallV.mono (h.2.2 h35) (fun _ _ _ ⟨r1, h34, h33⟩ => ⟨r1, h34, (CallV.mono h33 (fun _ _ _ ⟨r2, h32, h31⟩ => ⟨r2, h32, (CallV.mono h31 (fun _ _ _ ⟨r3, h30, h29⟩ => ⟨r3, h30, (CallV.mono h29 (fun _ _ _ ⟨r4, h28, h27⟩ => ⟨r4, h28, (CallV.mono h27 (fun _ _ _ ⟨r5, h26, h25⟩ => ⟨r5, h26, ⟨⟨(L_transform_stage_num_Num__0.mk 0 ((List.replicate (Int.toNat (p0.len : Int)) [Value.bool false, Value.slice none 0 0, Value.bool false, Value.slice none 0 0, Value.slice none 0 0]).flatten)), ⟨⟨rfl, rfl, rfl, rfl, rfl, rfl, rfl, trivial⟩, ⟨rfl, trivial⟩⟩, h25.1⟩, fun x3 V6 h23 h24 => ⟨fun h22 => ⟨((h25.2 x3 V6 h23 h24).1 h22).1, (match ((h25.2 x3 V6 h23 h24).1 h22).2 with | ⟨x4, h20, h21, h19⟩ => ⟨x4, h20, h21, ⟨h19.1, (match h19.2 with | ⟨x5, h17, h18, h16⟩ => ⟨x5, h17, h18, (CallV.mono h16 (fun _ _ _ ⟨r6, h15, h14⟩ => ⟨r6, h15, ⟨h14.1, (match h14.2 with | ⟨x6, h12, h13, h11⟩ => ⟨x6, h12, h13, ⟨h11.1, (match h11.2 with | ⟨x7, h9, h10, h8⟩ => ⟨x7, h9, h10, (CallV.mono h8 (fun _ _ _ ⟨r7, h7, h6⟩ => ⟨r7, h7, (CallV.mono h6 (fun _ _ _ ⟨r8, h5, h4⟩ => ⟨r8, h5, ⟨h4.1, ⟨h4.2.1, ⟨h4.2.2.1, ⟨h4.2.2.2.1, ⟨(L_transform_stage_num_Num__0.mk (IntKind.i64.wrap (x3.t36 + 1)) (setL (setL x3.o15 (0 + Int.toNat x3.t36 * 5) [.bool r7.re.neg, r7.re.mag.v, .bool r7.im.neg, r7.im.mag.v, r7.under.v]) (0 + Int.toNat (IntKind.i64.wrap (x3.t36 + (IntKind.i64.wrap (Int.tdiv (p0.len : Int) 2)))) * 5) [.bool r8.re.neg, r8.re.mag.v, .bool r8.im.neg, r8.im.mag.v, r8.under.v])), ⟨⟨rfl, rfl, rfl, rfl, rfl, rfl, rfl, trivial⟩, ⟨rfl, trivial⟩⟩, h4.2.2.2.2.1, h4.2.2.2.2.2⟩⟩⟩⟩⟩⟩))⟩))⟩)⟩⟩)⟩⟩))⟩)⟩⟩)⟩, fun h22 => ((h25.2 x3 V6 h23 h24).2 h22)⟩⟩⟩))⟩))⟩))⟩))⟩))⟩⟩))

end Go.Proofs.Ytcapadojlaojkaa

namespace Go.Vc
open Go

theorem addr_add2 (a : Addr) (m n : Nat) : (a.add m).add n = a.add (m + n) := by
  by_cases h1 : m = 0 <;> by_cases h2 : n = 0 <;> simp [Addr.add, h1, h2, Nat.add_assoc]
theorem load_block {V : View} {b j : Nat} {cs : Array Value} (h : V b = some cs) : V.load ((some (Addr.mk b 0 none)).map (·.add j)) = cs[j]? := by
  by_cases h1 : j = 0 <;> simp [View.load, Addr.add, h1, h]

/-- The element at a place, and the given one where there is none. -/
def Cells {α : Type} (sz : Nat) (P : View → List Value → α → Prop) (V : View) : List Value → List α → Prop
  | o, [] => o = []
  | o, z :: zs => ∃ x o', o = x ++ o' ∧ x.length = sz ∧ P V x z ∧ Cells sz P V o' zs

section
variable {α : Type} {sz : Nat} {P : View → List Value → α → Prop} {V V' : View}

theorem Cells.length : ∀ {zs : List α} {o : List Value}, Cells sz P V o zs → o.length = zs.length * sz
  | [], _, h => by rw [show _ = [] from h]; simp
  | z :: zs, _, ⟨x, o', e, hx, _, h⟩ => by rw [e, List.length_append, hx, h.length, List.length_cons, Nat.add_mul]; omega
theorem Cells.imp {P' : View → List Value → α → Prop} (hP : ∀ x z, P V x z → P' V' x z) : ∀ {zs : List α} {o : List Value}, Cells sz P V o zs → Cells sz P' V' o zs
  | [], _, h => h
  | _ :: _, _, ⟨x, o', e, hx, p, h⟩ => ⟨x, o', e, hx, hP _ _ p, h.imp hP⟩
theorem Cells.append : ∀ {zs zs' : List α} {o o' : List Value}, Cells sz P V o zs → Cells sz P V o' zs' → Cells sz P V (o ++ o') (zs ++ zs')
  | [], _, _, _, h, h' => by rw [show _ = [] from h]; exact h'
  | _ :: _, _, _, _, ⟨x, o1, e, hx, p, h⟩, h' => ⟨x, o1 ++ _, by rw [e, List.append_assoc], hx, p, h.append h'⟩
theorem Cells.one {x : List Value} {z : α} (hx : x.length = sz) (p : P V x z) : Cells sz P V x [z] := ⟨x, [], by simp, hx, p, rfl⟩
theorem Cells.nil : Cells sz P V [] ([] : List α) := rfl
theorem Cells.replicate {x : List Value} {z : α} (hx : x.length = sz) (p : P V x z) : ∀ n, Cells sz P V (List.replicate n x).flatten (List.replicate n z)
  | 0 => rfl
  | n + 1 => ⟨x, (List.replicate n x).flatten, by simp [List.replicate_succ], hx, p, Cells.replicate hx p n⟩
theorem Cells.get : ∀ {zs : List α} {o : List Value}, Cells sz P V o zs → ∀ {i : Nat} {z : α}, zs[i]? = some z →
    ∃ x, P V x z ∧ x.length = sz ∧ ∀ j v, x[j]? = some v → o[i * sz + j]? = some v
  | [], _, _, i, z, hi => by simp at hi
  | z0 :: zs, _, ⟨x, o', e, hx, p, h⟩, 0, z, hi => by
    simp at hi; subst hi
    refine ⟨x, p, hx, fun j v hj => ?_⟩
    have : j < x.length := by
      rcases Nat.lt_or_ge j x.length with h | h
      · exact h
      · rw [List.getElem?_eq_none h] at hj; simp at hj
    rw [e, Nat.zero_mul, Nat.zero_add, List.getElem?_append_left this]; exact hj
  | z0 :: zs, _, ⟨x, o', e, hx, p, h⟩, i + 1, z, hi => by
    simp at hi
    obtain ⟨y, q, hy, hg⟩ := h.get hi
    refine ⟨y, q, hy, fun j v hj => ?_⟩
    rw [e, List.getElem?_append_right (by rw [hx, Nat.add_mul]; omega)]
    have : (i + 1) * sz + j - x.length = i * sz + j := by rw [hx, Nat.add_mul]; omega
    rw [this]; exact hg j v hj
theorem setL_mid {β : Type} : ∀ (vs a : List β) (b c : List β), b.length = vs.length → setL (a ++ b ++ c) a.length vs = a ++ vs ++ c
  | [], a, b, c, h => by have : b = [] := by simpa using h
                         subst this; simp [setL]
  | v :: vs, a, [], c, h => by simp at h
  | v :: vs, a, b0 :: b, c, h => by
    have h' : b.length = vs.length := by simpa using h
    unfold setL
    have e : (a ++ b0 :: b ++ c).set a.length v = (a ++ [v]) ++ b ++ c := by
      rw [List.append_assoc, List.set_append_right _ _ (Nat.le_refl _)]; simp
    rw [e]
    have e2 : a.length + 1 = (a ++ [v]).length := by simp
    rw [e2, setL_mid vs (a ++ [v]) b c h']; simp
theorem Cells.set : ∀ {zs : List α} {o : List Value}, Cells sz P V o zs → ∀ {i : Nat} {y : List Value} {z : α}, i < zs.length → y.length = sz → P V y z →
    ∀ pre : List Value, ∃ o', setL (pre ++ o) (pre.length + i * sz) y = pre ++ o' ∧ Cells sz P V o' (zs.set i z)
  | [], _, _, i, _, _, hi, _, _, _ => by simp at hi
  | z0 :: zs, _, ⟨x, o', e, hx, p, h⟩, 0, y, z, hi, hy, q, pre => by
    refine ⟨y ++ o', ?_, y, o', rfl, hy, q, h⟩
    rw [e, Nat.zero_mul, Nat.add_zero, ← List.append_assoc, setL_mid y pre x o' (by rw [hx, hy])]; simp
  | z0 :: zs, _, ⟨x, o', e, hx, p, h⟩, i + 1, y, z, hi, hy, q, pre => by
    obtain ⟨o2, e2, h2⟩ := h.set (i := i) (by simpa using hi) hy q (pre ++ x)
    refine ⟨x ++ o2, ?_, x, o2, rfl, hx, p, h2⟩
    have e3 : (pre ++ x).length + i * sz = pre.length + (i + 1) * sz := by rw [List.length_append, hx, Nat.add_mul]; omega
    rw [e, ← e3, ← List.append_assoc, e2, List.append_assoc]
theorem Cells.set0 {zs : List α} {o : List Value} (h : Cells sz P V o zs) {i : Nat} {y : List Value} {z : α} (hi : i < zs.length) (hy : y.length = sz) (q : P V y z) :
    Cells sz P V (setL o (0 + i * sz) y) (zs.set i z) := by
  obtain ⟨o', e, h'⟩ := h.set hi hy q []
  simp only [List.nil_append, List.length_nil] at e
  rw [e]; exact h'
theorem Cells.room {zs : List α} {o : List Value} (h : Cells sz P V o zs) {i : Nat} (hi : i < zs.length) : 0 + i * sz + sz ≤ o.length := by
  rw [h.length]
  have : (i + 1) * sz ≤ zs.length * sz := Nat.mul_le_mul_right _ hi
  rw [Nat.add_mul] at this; omega
/-- A slice of such elements. -/
structure ListAt (sz : Nat) (P : View → List Value → α → Prop) (V : View) (s : Sl) (zs : List α) : Prop where
  len : s.len = zs.length
  cap : s.len ≤ s.cap
  some : zs ≠ [] → s.a.isSome = true
  cells : ∃ o, V.has s.a o ∧ Cells sz P V o zs

theorem ListAt.le (hP : ∀ x z, P V x z → P V' x z) (hle : V.le V') {s : Sl} {zs : List α} (h : ListAt sz P V s zs) : ListAt sz P V' s zs := by
  obtain ⟨o, h1, h2⟩ := h.cells
  exact ⟨h.len, h.cap, h.some, o, View.has_le hle h1, h2.imp hP⟩
theorem ListAt.nil : ListAt sz P V (Sl.mk none 0 0) ([] : List α) := ⟨rfl, Nat.le_refl _, by simp, [], by intro j v h; simp at h, rfl⟩
theorem ListAt.get {s : Sl} {zs : List α} (h : ListAt sz P V s zs) {t : Int} (h0 : 0 ≤ t) {z : α} (hz : zs[t.toNat]? = .some z) :
    ((0 : Int) ≤ t ∧ t < (s.len : Nat) ∧ Option.isSome s.a = true) ∧
    ∃ x, P V x z ∧ x.length = sz ∧ V.has (Option.map (fun q => Addr.add q (Int.toNat t * sz)) s.a) x ∧ Option.isSome (Option.map (fun q => Addr.add q (Int.toNat t * sz)) s.a) = true := by
  obtain ⟨o, h1, h2⟩ := h.cells
  obtain ⟨x, p, hx, hg⟩ := h2.get hz
  have hlt : t.toNat < zs.length := by
    rcases Nat.lt_or_ge t.toNat zs.length with h | h
    · exact h
    · rw [List.getElem?_eq_none h] at hz; simp at hz
  have hne : zs ≠ [] := by intro e; rw [e] at hlt; simp at hlt
  have hs := h.some hne
  have hl := h.len
  refine ⟨⟨h0, by omega, hs⟩, x, p, hx, fun j v hj => ?_, by simpa using hs⟩
  have := h1 _ v (hg j v hj)
  rw [Option.map_map]
  have e : ((fun x : Addr => x.add j) ∘ fun q : Addr => q.add (t.toNat * sz)) = fun q : Addr => q.add (t.toNat * sz + j) := by
    funext a; exact addr_add2 a _ _
  rw [e]; exact this
/-- A block that is wholly known, or more of it than the list. -/
theorem ListAt.of_block {b c : Nat} {o o' : List Value} {zs : List α} (hb : o ++ o' ≠ [] → V b = .some (o ++ o').toArray) (h : Cells sz P V o zs) {n : Nat} (hn : n = zs.length) (hc : n ≤ c) {a : Option Addr}
    (ha : c ≠ 0 → a = .some ⟨b, 0, none⟩) : ListAt sz P V ⟨a, n, c⟩ zs := by
  refine ⟨hn, hc, fun hne => ?_, o, fun j v hj => ?_, h⟩
  · have : zs.length ≠ 0 := by simpa using hne
    rw [ha (by omega)]; rfl
  · have hj' : j < o.length := by
      rcases Nat.lt_or_ge j o.length with h | h
      · exact h
      · rw [List.getElem?_eq_none h] at hj; simp at hj
    have hl := h.length
    have hz : zs.length ≠ 0 := by intro e; rw [e] at hl; omega
    have hne : o ++ o' ≠ [] := by intro e; have := congrArg List.length e; simp at this; simp [this] at hj'
    show V.load (a.map (·.add j)) = .some v
    rw [ha (by omega)]
    rw [load_block (hb hne), List.getElem?_toArray, List.getElem?_append_left hj']; exact hj
theorem LstOk.split {n cap : Nat} {o l : List Value} (h : LstOk sz n cap o l) : ∃ o', o = l ++ o' := ⟨o.drop (n * sz), by rw [← h.take, List.take_append_drop]⟩
theorem LstOk.nil : LstOk sz 0 0 [] [] := ⟨Nat.le_refl _, by simp, by simp⟩
/-- A grown list that is given away. -/
theorem ListAt.of_lst {b n cap : Nat} {o l : List Value} {zs : List α} (hl : LstOk sz n cap o l) (hb : o ≠ [] → V b = .some o.toArray) (h : Cells sz P V l zs) (hn : n = zs.length) :
    ListAt sz P V ⟨lstA b cap, n, cap⟩ zs := by
  obtain ⟨o', e⟩ := hl.split
  refine ListAt.of_block (o := l) (o' := o') (b := b) (fun hne => ?_) h hn hl.le (fun hc => by simp [lstA, hc])
  rw [← e]; exact hb (by rw [e]; exact hne)
/-- A made list that is given away. -/
theorem ListAt.of_made {b n : Nat} {o : List Value} {zs : List α} (hb : V b = .some o.toArray) (h : Cells sz P V o zs) (hn : n = zs.length) : ListAt sz P V ⟨.some ⟨b, 0, none⟩, n, n⟩ zs :=
  ListAt.of_block (o := o) (o' := []) (b := b) (fun _ => by simpa using hb) h hn (Nat.le_refl _) (fun _ => rfl)
end

/-- The cells of a number. -/
def numC (V : View) (x : List Value) (z : Cq) : Prop := ∃ n : NumV, x = n.val.cells.toList ∧ NumAt V n z
theorem numC.le {V V' : View} (hle : V.le V') (x : List Value) (z : Cq) (h : numC V x z) : numC V' x z := by
  obtain ⟨n, e, hn⟩ := h; exact ⟨n, e, hn.le hle⟩
/-- A slice of the program's numbers. -/
def NumsAt (V : View) (s : Sl) (zs : List Cq) : Prop := ListAt 5 numC V s zs
def NumsIn (V : View) (o : List Value) (zs : List Cq) : Prop := Cells 5 numC V o zs
theorem NumsAt.le {V V' : View} (hle : V.le V') {s : Sl} {zs : List Cq} (h : NumsAt V s zs) : NumsAt V' s zs := ListAt.le (numC.le hle) hle h
theorem NumsIn.le {V V' : View} (hle : V.le V') {o : List Value} {zs : List Cq} (h : NumsIn V o zs) : NumsIn V' o zs := Cells.imp (numC.le hle) h
def nth (zs : List Cq) (i : Nat) : Cq := zs.getD i Cq.zero
theorem nth_get {zs : List Cq} {i : Nat} (h : i < zs.length) : zs[i]? = some (nth zs i) := by simp [nth, List.getD, h]
theorem NumsAt.get {V : View} {s : Sl} {zs : List Cq} (h : NumsAt V s zs) {t : Int} (h0 : 0 ≤ t) (h1 : t.toNat < zs.length) :
    ((0 : Int) ≤ t ∧ t < (s.len : Nat) ∧ Option.isSome s.a = true) ∧
    ∃ x : NumV, V.has (Option.map (fun q => Addr.add q (Int.toNat t * 5)) s.a) x.val.cells.toList ∧ Option.isSome (Option.map (fun q => Addr.add q (Int.toNat t * 5)) s.a) = true ∧ NumAt V x (nth zs t.toNat) := by
  obtain ⟨hb, x, ⟨n, e, hn⟩, _, h1, h2⟩ := ListAt.get h h0 (nth_get h1)
  exact ⟨hb, n, e ▸ h1, h2, hn⟩
theorem NumsIn.zeros (V : View) (n : Nat) : NumsIn V ((List.replicate n [Value.bool false, Value.slice none 0 0, Value.bool false, Value.slice none 0 0, Value.slice none 0 0]).flatten) (List.replicate n Cq.zero) :=
  Cells.replicate (x := [Value.bool false, Value.slice none 0 0, Value.bool false, Value.slice none 0 0, Value.slice none 0 0]) rfl ⟨_, rfl, NumAt.zero V⟩ n
theorem NumsIn.set {V : View} {o : List Value} {zs : List Cq} (h : NumsIn V o zs) {i : Nat} (hi : i < zs.length) {r : NumV} {z : Cq} (hr : NumAt V r z) :
    NumsIn V (setL o (0 + i * 5) [.bool r.re.neg, r.re.mag.v, .bool r.im.neg, r.im.mag.v, r.under.v]) (zs.set i z) := Cells.set0 h hi rfl ⟨r, rfl, hr⟩
theorem NumsIn.push {V : View} {o : List Value} {zs : List Cq} (h : NumsIn V o zs) {r : NumV} {z : Cq} (hr : NumAt V r z) :
    NumsIn V (o ++ [.bool r.re.neg, r.re.mag.v, .bool r.im.neg, r.im.mag.v, r.under.v]) (zs ++ [z]) := Cells.append h (Cells.one rfl ⟨r, rfl, hr⟩)
/-- A list that is filled from the start on. -/
def filled (n k : Nat) (f : Nat → Cq) : List Cq := (List.range k).map f ++ List.replicate (n - k) Cq.zero
theorem filled_zero (n : Nat) (f : Nat → Cq) : filled n 0 f = List.replicate n Cq.zero := by simp [filled]
theorem filled_all (n : Nat) (f : Nat → Cq) : filled n n f = (List.range n).map f := by simp [filled]
theorem filled_length {n k : Nat} (h : k ≤ n) (f : Nat → Cq) : (filled n k f).length = n := by simp [filled]; omega
theorem filled_set {n k : Nat} (h : k < n) (f : Nat → Cq) : (filled n k f).set k (f k) = filled n (k + 1) f := by
  unfold filled
  rw [List.set_append_right _ _ (by simp)]
  simp only [List.length_map, List.length_range, Nat.sub_self]
  have : n - k = (n - (k + 1)) + 1 := by omega
  rw [this, List.replicate_succ, List.set_cons_zero, List.range_succ, List.map_append]; simp
theorem nth_map {n i : Nat} (h : i < n) (f : Nat → Cq) : nth ((List.range n).map f) i = f i := by simp [nth, List.getD, h]
theorem push_range (k : Nat) (f : Nat → Cq) : (List.range k).map f ++ [f k] = (List.range (k + 1)).map f := by rw [List.range_succ, List.map_append]; rfl
theorem list_of_nth (zs : List Cq) : (List.range zs.length).map (nth zs) = zs := by
  apply List.ext_getElem (by simp)
  intro i h1 h2
  simp [nth, List.getD, h2]

/-- What is handed over as a list of numbers is a slice of numbers. -/
theorem CallO.nums {P : Program} {f : FuncId} {args : Array Value} {ty : TypeId} {V : View} {zs : List Cq} (hz : zs ≠ [])
    (h : CallO P f args ty V fun n cap l rest V' => n = zs.length ∧ cap = n ∧ rest = [] ∧ NumsIn V' l zs) :
    CallV P f args V fun v V' => ∃ r : Sl, v = r.v ∧ NumsAt V' r zs := by
  refine h.known.mono fun v V' _ ⟨b, n, cap, l, rest, V1, hv, l1, hb, hn, hc, hr, hl⟩ => ?_
  subst hc; subst hr
  have hl0 : l ≠ [] := by
    intro e; subst e
    have h1 := Cells.length hl
    have : zs.length ≠ 0 := by simpa using hz
    simp at h1; omega
  refine ⟨⟨lstA b cap, cap, cap⟩, hv, ListAt.of_block (o := l) (o' := []) (b := b) (fun _ => by simpa using hb hl0) (hl.le l1) hn (Nat.le_refl _) (fun hc => by simp [lstA, hc])⟩

/-- The numbers of a list, from one on, every second. -/
def everyF (zs : List Cq) (a : Nat) : List Cq := (List.range ((zs.length + 1 - a) / 2)).map fun k => nth zs (a + 2 * k)
theorem everyF_length (zs : List Cq) (a : Nat) : (everyF zs a).length = (zs.length + 1 - a) / 2 := by simp [everyF]
theorem everyF_nth {zs : List Cq} {a k : Nat} (h : k < (zs.length + 1 - a) / 2) : nth (everyF zs a) k = nth zs (a + 2 * k) := nth_map h _
/-- The transform in stages. -/
def stageF : Nat → List Cq → List Cq → List Cq
  | 0, zs, _ => [nth zs 0]
  | m + 1, zs, ws => (List.range (2 ^ (m + 1))).map fun i =>
      if i < 2 ^ m then nth (stageF m (everyF zs 0) (everyF ws 0)) i + nth (stageF m (everyF zs 1) (everyF ws 0)) i * nth ws i
      else nth (stageF m (everyF zs 0) (everyF ws 0)) (i - 2 ^ m) - nth (stageF m (everyF zs 1) (everyF ws 0)) (i - 2 ^ m) * nth ws (i - 2 ^ m)
theorem stageF_length (m : Nat) (zs ws : List Cq) : (stageF m zs ws).length = 2 ^ m := by cases m <;> simp [stageF]
theorem stageF_sz : ∀ (m : Nat) (zs ws : List Cq) (S T : Nat), zs.length = 2 ^ m → ws.length = 2 ^ m → (∀ i, i < 2 ^ m → (nth zs i).sz ≤ S) → (∀ i, i < 2 ^ m → (nth ws i).sz ≤ T) →
    ∀ i, i < 2 ^ m → (nth (stageF m zs ws) i).sz + (T + 2) ≤ 2 ^ m * (S + T + 2)
  | 0, zs, ws, S, T, _, _, hS, _, i, hi => by
    have h0 : i = 0 := by simpa using hi
    subst h0
    have h2 := hS 0 (by simp)
    have e : nth (stageF 0 zs ws) 0 = nth zs 0 := rfl
    rw [e]; omega
  | m + 1, zs, ws, S, T, hz, hw, hS, hT, i, hi => by
    have hp : 2 ^ (m + 1) = 2 * 2 ^ m := by rw [Nat.pow_succ]; omega
    have key : ∀ a, a ≤ 1 → ∀ k, k < 2 ^ m → (nth (stageF m (everyF zs a) (everyF ws 0)) k).sz + (T + 2) ≤ 2 ^ m * (S + T + 2) := by
      intro a ha
      refine stageF_sz m _ _ S T (by rw [everyF_length]; omega) (by rw [everyF_length]; omega) ?_ ?_
      · intro k hk
        rw [everyF_nth (by omega)]
        exact hS _ (by omega)
      · intro k hk
        rw [everyF_nth (by omega)]
        exact hT _ (by omega)
    have e : 2 ^ (m + 1) * (S + T + 2) = 2 * (2 ^ m * (S + T + 2)) := by rw [hp, Nat.mul_assoc]
    unfold stageF
    rw [nth_map hi, e]
    split
    · have h1 := key 0 (by omega) i (by assumption)
      have h2 := key 1 (by omega) i (by assumption)
      have h3 := hT i hi
      have h4 := Cq.sz_mul (nth (stageF m (everyF zs 1) (everyF ws 0)) i) (nth ws i)
      have h5 := Cq.sz_add (nth (stageF m (everyF zs 0) (everyF ws 0)) i) (nth (stageF m (everyF zs 1) (everyF ws 0)) i * nth ws i)
      omega
    · have h1 := key 0 (by omega) (i - 2 ^ m) (by omega)
      have h2 := key 1 (by omega) (i - 2 ^ m) (by omega)
      have h3 := hT (i - 2 ^ m) (by omega)
      have h4 := Cq.sz_mul (nth (stageF m (everyF zs 1) (everyF ws 0)) (i - 2 ^ m)) (nth ws (i - 2 ^ m))
      have h5 := Cq.sz_sub (nth (stageF m (everyF zs 0) (everyF ws 0)) (i - 2 ^ m)) (nth (stageF m (everyF zs 1) (everyF ws 0)) (i - 2 ^ m) * nth ws (i - 2 ^ m))
      omega
/-- A list that is filled from the start and from the middle on. -/
def halves (h k : Nat) (a b : Nat → Cq) : List Cq := (List.range (2 * h)).map fun i => if i < h then (if i < k then a i else Cq.zero) else (if i - h < k then b (i - h) else Cq.zero)
theorem halves_zero (h : Nat) (a b : Nat → Cq) : halves h 0 a b = List.replicate (2 * h) Cq.zero := by
  apply List.ext_getElem (by simp [halves])
  intro i h1 h2
  simp [halves]
theorem halves_set {h k : Nat} (hk : k < h) (a b : Nat → Cq) : ((halves h k a b).set k (a k)).set (k + h) (b k) = halves h (k + 1) a b := by
  apply List.ext_getElem (by simp [halves])
  intro i h1 h2
  simp only [halves, List.getElem_set, List.getElem_map, List.getElem_range]
  by_cases e1 : k + h = i
  · subst e1
    have : ¬ k + h < h := by omega
    simp [this]
  · by_cases e2 : k = i
    · subst e2
      have e4 : h ≠ 0 := by omega
      simp [e4, hk]
    · simp only [e1, e2, if_false]
      by_cases e3 : i < h
      · have : (i < k + 1) ↔ i < k := by omega
        simp [e3, this]
      · have : (i - h < k + 1) ↔ i - h < k := by omega
        simp [e3, this]

/-- An element's cells, cut out. -/
theorem Cells.cut {α : Type} {sz : Nat} {P : View → List Value → α → Prop} {V : View} : ∀ {zs : List α} {o : List Value}, Cells sz P V o zs → ∀ {i : Nat} {z : α}, zs[i]? = some z → P V ((o.drop (i * sz)).take sz) z
  | [], _, _, i, z, hi => by simp at hi
  | z0 :: zs, _, ⟨x, o', e, hx, p, h⟩, 0, z, hi => by
    simp at hi; subst hi
    rw [e, Nat.zero_mul, List.drop_zero, List.take_append_of_le_length (by omega), List.take_of_length_le (by omega)]; exact p
  | z0 :: zs, _, ⟨x, o', e, hx, p, h⟩, i + 1, z, hi => by
    simp at hi
    have := h.cut hi
    have e2 : (i + 1) * sz = x.length + i * sz := by rw [hx, Nat.add_mul]; omega
    rw [e, e2, ← List.drop_drop, List.drop_left]; exact this
theorem NumsIn.cut {V : View} {o : List Value} {zs : List Cq} (h : NumsIn V o zs) {i : Nat} (hi : i < zs.length) :
    ∃ x : NumV, List.take 5 (List.drop (0 + i * 5) o) = x.val.cells.toList ∧ NumAt V x (nth zs i) := by
  rw [Nat.zero_add]
  exact Cells.cut h (nth_get hi)
end Go.Vc

namespace Go.Proofs.Ytcapadojlaojkaa
open Go Go.Vc Go.Proofs

def lenB (n : Nat) : Bool := [1, 2, 4, 8, 16, 32, 64].contains n
theorem lenB_eq : ∀ n ∈ List.range 65, 1 ≤ n → (IntKind.i64.wrap (BitVec.toNat ((BitVec.ofInt IntKind.i64.bits (n : Int)) &&& (BitVec.ofInt IntKind.i64.bits (IntKind.i64.wrap ((n : Int) - 1))))) == 0) = lenB n := by
  decide +kernel
theorem lenB_le {n : Nat} (h : lenB n = true) : 1 ≤ n ∧ n ≤ 64 := by
  simp [lenB] at h; omega

theorem transform_length_spec {V : View} {n : Int} (h0 : 0 ≤ n) : CallV Try.prog n_transform_length #[.int .i64 n] V fun v V' => v = .bool (lenB n.toNat) := by
  refine transform_length_vc n V _ ⟨fun h1 => ⟨fun h2 => ?_, fun h2 => ?_⟩, fun h1 => ⟨fun h => absurd h (by simp), fun _ => ?_⟩⟩
  · simp only [decide_eq_true_eq] at h1 h2
    have := lenB_eq n.toNat (by simp; omega) (by omega)
    rw [Int.toNat_of_nonneg h0] at this
    rw [this]
  · simp only [decide_eq_false_iff_not] at h2
    congr 1; symm
    rw [Bool.eq_false_iff]; intro e
    have := lenB_le e; omega
  · simp only [decide_eq_false_iff_not] at h1
    congr 1; symm
    rw [Bool.eq_false_iff]; intro e
    have := lenB_le e; omega

theorem transform_fits_spec {V : View} (p q : Sl) : CallV Try.prog n_transform_fits_num_Num_ #[p.v, q.v] V fun v V' => v = .bool (lenB q.len && decide (p.len = q.len)) := by
  refine transform_fits_num_Num__vc p q V _ ((transform_length_spec (Int.natCast_nonneg _)).mono fun v V1 l1 hv => ⟨_, hv, fun h => ?_, fun h => ?_⟩)
  · rw [Int.toNat_natCast] at h
    rw [h, Bool.true_and]; congr 1
    rw [Bool.eq_iff_iff]; simp; omega
  · rw [Int.toNat_natCast] at h
    rw [h, Bool.false_and]

/-- What a plain number stands for. -/
def ratQ (r : RatV) : Cq := if r.den = 0 then ⟨(r.re : Rat), (r.im : Rat)⟩ else ⟨(r.re : Rat) / (r.den : Rat), (r.im : Rat) / (r.den : Rat)⟩
def ratI (r : RatV) : Prop := (-9223372036854775808 ≤ r.re ∧ r.re ≤ 9223372036854775807) ∧ (-9223372036854775808 ≤ r.im ∧ r.im ≤ 9223372036854775807) ∧ (-9223372036854775808 ≤ r.den ∧ r.den ≤ 9223372036854775807)
def ratC (_ : View) (x : List Value) (r : RatV) : Prop := x = r.val.cells.toList
def RatsAt (V : View) (s : Sl) (rs : List RatV) : Prop := ListAt 3 ratC V s rs
theorem RatsAt.le {V V' : View} (hle : V.le V') {s : Sl} {rs : List RatV} (h : RatsAt V s rs) : RatsAt V' s rs := ListAt.le (P := ratC) (V := V) (V' := V') (fun _ _ h => h) hle h

theorem law1_Of_spec {V : View} {r : RatV} (h : ratI r) : CallV Try.prog n_law1_Of #[r.val] V fun v V' => ∃ x : NumV, v = x.val ∧ NumAt V' x (ratQ r) := by
  obtain ⟨⟨a1, a2⟩, ⟨b1, b2⟩, ⟨c1, c2⟩⟩ := h
  refine law1_Of_vc r V _ ⟨fun h0 => ?_, fun h0 => ?_⟩
  · have h0 : r.den = 0 := by simpa using h0
    refine (num_New_spec a1 a2 b1 b2 (by omega) (by omega) (by omega)).mono fun v V1 _ ⟨x, hv, hx⟩ => ⟨x, 0, hv, x, rfl, ?_⟩
    have e : ratQ r = ⟨(r.re : Rat) / ((1 : Int) : Rat), (r.im : Rat) / ((1 : Int) : Rat)⟩ := by
      unfold ratQ; rw [if_pos h0]; simp only [Rat.div_def, Cq.mk.injEq]; constructor <;> grind
    rw [e]; exact hx
  · have h0 : r.den ≠ 0 := by simpa using h0
    refine (num_New_spec a1 a2 b1 b2 c1 c2 h0).mono fun v V1 _ ⟨x, hv, hx⟩ => ⟨x, 0, hv, x, rfl, ?_⟩
    unfold ratQ; rw [if_neg h0]; exact hx

theorem law1_List_spec {V : View} {s : Sl} {rs : List RatV} (h : RatsAt V s rs) (hi : ∀ r ∈ rs, ratI r) (hn : rs.length ≤ 2 ^ 32) :
    CallV Try.prog n_law1_List #[s.v] V fun v V' => ∃ r : Sl, v = r.v ∧ NumsAt V' r (rs.map ratQ) := by
  have hl := h.len
  let f : Nat → Cq := fun i => nth (rs.map ratQ) i
  refine law1_List_vc s V _ (fun _ x V' => 0 ≤ x.t11 ∧ x.t11 ≤ s.len ∧ NumsIn V' x.o8 (filled s.len x.t11.toNat f)) (fun _ x _ => s.len - x.t11.toNat)
    ⟨⟨by omega, by omega, by omega, by omega⟩, ⟨by simp, by simp, ?_⟩, ?_⟩
  · simp only [Int.toNat_zero, filled_zero, Int.toNat_natCast]; exact NumsIn.zeros _ _
  rintro ⟨t, o⟩ V1 l1 ⟨h0, h1, ho⟩
  simp only at h0 h1 ho ⊢
  refine ⟨fun hlt => ?_, fun hge => ?_⟩
  · simp only [decide_eq_true_eq] at hlt
    have hk : t.toNat < rs.length := by omega
    obtain ⟨hb, x, hx, _, hh, hs⟩ := (h.le l1).get h0 (z := rs[t.toNat]) (by simp [hk])
    refine ⟨hb, rs[t.toNat], hx ▸ hh, hs, (law1_Of_spec (hi _ (List.getElem_mem _))).mono fun v V2 l2 ⟨r, hv, hr⟩ => ⟨r, hv, ⟨h0, by simpa using hlt⟩, ?_, ?_⟩⟩
    · exact Cells.room ho (by rw [filled_length (by omega)]; omega)
    · have e : IntKind.i64.wrap (t + 1) = t + 1 := i64w (by omega) (by omega)
      have e2 : (t + 1).toNat = t.toNat + 1 := by omega
      have ef : f t.toNat = ratQ rs[t.toNat] := by simp [f, nth, List.getD, hk]
      refine ⟨⟨by rw [e]; omega, by rw [e]; omega, ?_⟩, by simp only [e, e2]; omega⟩
      simp only [e, e2]
      rw [← filled_set (by omega), ef]
      exact (ho.le l2).set (by rw [filled_length (by omega)]; omega) hr
  · simp only [decide_eq_false_iff_not] at hge
    intro b V3 l3 hb
    have e : t.toNat = s.len := by omega
    rw [e, filled_all] at ho
    have e2 : (List.range s.len).map f = rs.map ratQ := by
      have := list_of_nth (rs.map ratQ)
      rw [List.length_map] at this
      rw [hl]; exact this
    rw [e2] at ho
    exact ⟨_, rfl, ListAt.of_made hb (ho.le l3) (by simp [hl])⟩

theorem oneCell_num (r : NumV) : ∀ v ∈ [Value.bool r.re.neg, r.re.mag.v, Value.bool r.im.neg, r.im.mag.v, r.under.v], Value.oneCell' v = true := by
  intro v hv
  simp only [List.mem_cons, List.not_mem_nil, or_false] at hv
  rcases hv with rfl | rfl | rfl | rfl | rfl <;> rfl

theorem has_block {V : View} {b : Nat} {l : List Value} (h : V b = some l.toArray) : V.has (some (Addr.mk b 0 none)) l := by
  intro j v hj
  rw [load_block h]; simpa using hj

theorem transform_every_spec {V : View} {s : Sl} {zs : List Cq} {a : Int} (h : NumsAt V s zs) (ha : 0 ≤ a) (ha1 : a ≤ 1) (hn : zs.length ≤ 2 ^ 32) (hn1 : 1 ≤ zs.length) :
    CallV Try.prog n_transform_every_num_Num_ #[s.v, .int .i64 a] V fun v V' => ∃ r : Sl, v = r.v ∧ NumsAt V' r (everyF zs a.toNat) := by
  have hl := h.len
  refine transform_every_num_Num__vc s a V _ (fun _ x V' => ∃ l, x.t6 = a + 2 * x.t5l ∧ 2 * x.t5l + a.toNat ≤ zs.length + 1 ∧ LstOk 5 x.t5l x.t5c x.o5 l ∧ NumsIn V' l ((List.range x.t5l).map fun k => nth zs (a.toNat + 2 * k)))
    (fun _ x _ => zs.length + 2 - 2 * x.t5l) ⟨⟨[], by simp, by simp; omega, LstOk.nil, rfl⟩, ?_⟩
  rintro ⟨n, c, t, o⟩ V1 l1 ⟨l, ht, hm, hlo, hin⟩
  simp only at ht hm hlo hin ⊢
  refine ⟨fun hlt => ?_, fun hge => ?_⟩
  · simp only [decide_eq_true_eq] at hlt
    obtain ⟨hb, x, hx, hs, hnx⟩ := (h.le l1).get (t := t) (by omega) (by omega)
    refine ⟨hb, x, hx, hs, fun b V2 l2 hf hV2 => ?_⟩
    refine ⟨l, _, hlo, has_block (l := [.bool x.re.neg, x.re.mag.v, .bool x.im.neg, x.im.mag.v, x.under.v]) hV2, rfl, oneCell_num x, ?_, ?_, fun c1 l3 hl3 => ?_⟩
    · simp only [maxLen]; omega
    · omega
    · have e : IntKind.i64.wrap (t + 2) = t + 2 := i64w (by omega) (by omega)
      refine ⟨⟨_, by rw [e]; simp; omega, by omega, hl3, ?_⟩, by omega⟩
      rw [← push_range]
      have e3 : a.toNat + 2 * n = t.toNat := by omega
      rw [e3]
      exact (hin.le l2).push (hnx.le l2)
  · simp only [decide_eq_false_iff_not] at hge
    intro b V3 l3 hb
    refine ⟨_, rfl, ?_⟩
    have e : n = (zs.length + 1 - a.toNat) / 2 := by omega
    unfold everyF
    rw [← e]
    exact ListAt.of_lst hlo hb (hin.le l3) (by simp)

theorem transform_stage_owned : ∀ (m : Nat) {V : View} {p w : Sl} {zs ws : List Cq} (S T : Nat), m ≤ 6 → zs.length = 2 ^ m → ws.length = 2 ^ m → NumsAt V p zs → NumsAt V w ws →
    (∀ i, i < 2 ^ m → (nth zs i).sz ≤ S) → (∀ i, i < 2 ^ m → (nth ws i).sz ≤ T) → 2 ^ m * (S + T + 2) ≤ 2 ^ 39 →
    CallO Try.prog n_transform_stage_num_Num_ #[p.v, w.v] TN_num_Num V fun n cap l rest V' => n = (stageF m zs ws).length ∧ cap = n ∧ rest = [] ∧ NumsIn V' l (stageF m zs ws)
  | m, V, p, w, zs, ws, S, T, hm, hz, hw, hp, hq, hS, hT, hsz => by
    have hpl := hp.len
    have hwl := hq.len
    have hpow : 2 ^ m ≤ 64 := Nat.pow_le_pow_right (n := 2) (by omega) hm
    have hpos : 0 < 2 ^ m := Nat.pow_pos (by omega)
    rw [stageF_length]
    refine transform_stage_num_Num__vc p w V _ (fun c x V' => ∃ m' zs' ws', m = m' + 1 ∧ zs' = stageF m' (everyF zs 0) (everyF ws 0) ∧ ws' = stageF m' (everyF zs 1) (everyF ws 0) ∧
        NumsAt V' c.t8 zs' ∧ NumsAt V' c.t9 ws' ∧ 0 ≤ x.t36 ∧ x.t36 ≤ (2 ^ m' : Nat) ∧
        NumsIn V' x.o15 (halves (2 ^ m') x.t36.toNat (fun i => nth zs' i + nth ws' i * nth ws i) (fun i => nth zs' i - nth ws' i * nth ws i)))
      (fun _ x _ => 2 ^ m - x.t36.toNat) ⟨⟨by omega, by omega, by omega, by omega⟩, fun h1 => ?_, fun h1 => ?_⟩
    · have h1 : p.len = 1 := by have : (p.len : Int) = 1 := (by simpa using h1); omega
      have hm0 : m = 0 := by
        rcases Nat.eq_zero_or_pos m with h | h
        · exact h
        · have : 2 ^ 1 ≤ 2 ^ m := Nat.pow_le_pow_right (by omega) h
          omega
      subst hm0
      obtain ⟨hb, x, hx, hs, hnx⟩ := hp.get (t := 0) (by omega) (by simp [hz])
      have hset := (NumsIn.zeros V 1).set (i := 0) (by simp) hnx
      refine ⟨hb, x, hx, hs, ⟨by omega, by omega⟩, ?_, ?_, ?_⟩
      · simp [h1]
      · refine ⟨by simp [h1], ?_⟩
        intro e
        have h5 := Cells.length hset
        simp only [h1] at e
        have h6 : (0 : Nat) = 5 := (congrArg List.length e).symm.trans h5
        omega
      · refine ⟨by simp [h1], rfl, rfl, ?_⟩
        simp only [h1]
        exact hset
    · have h1 : p.len ≠ 1 := by intro e; simp [e] at h1
      obtain ⟨m', rfl⟩ : ∃ m', m = m' + 1 := ⟨m - 1, by rcases Nat.eq_zero_or_pos m with h | h; · subst h; simp at hz; omega
                                                        · omega⟩
      have hp2 : 2 ^ (m' + 1) = 2 * 2 ^ m' := by rw [Nat.pow_succ]; omega
      have hmul : 2 ^ (m' + 1) * (S + T + 2) = 2 * (2 ^ m' * (S + T + 2)) := by rw [hp2, Nat.mul_assoc]
      have bz : ∀ a, a ≤ 1 → ∀ i, i < 2 ^ m' → (nth (everyF zs a) i).sz ≤ S := by
        intro a ha i hi; rw [everyF_nth (by omega)]; exact hS _ (by omega)
      have bw : ∀ i, i < 2 ^ m' → (nth (everyF ws 0) i).sz ≤ T := by
        intro i hi; rw [everyF_nth (by omega)]; exact hT _ (by omega)
      refine (transform_every_spec hq (Int.le_refl 0) (by omega) (by omega) (by omega)).mono fun v V1 l1 ⟨r1, hv, hr1⟩ => ⟨r1, hv, ?_⟩
      refine (transform_every_spec (hp.le l1) (Int.le_refl 0) (by omega) (by omega) (by omega)).mono fun v V2 l2 ⟨r2, hv, hr2⟩ => ⟨r2, hv, ?_⟩
      have ne : ∀ zs ws, stageF m' zs ws ≠ [] := by
        intro zs ws e
        have := stageF_length m' zs ws
        rw [e] at this; simp at this
        have : 0 < 2 ^ m' := Nat.pow_pos (by omega)
        omega
      refine (CallO.nums (ne _ _) (transform_stage_owned m' S T (by omega) (by simp [everyF_length]; omega) (by simp [everyF_length]; omega) hr2 (hr1.le l2) (bz 0 (by omega)) bw (by omega))).mono fun v V3 l3 ⟨r3, hv, hr3⟩ => ⟨r3, hv, ?_⟩
      refine (transform_every_spec (hp.le (View.le_trans l1 (View.le_trans l2 l3))) (a := 1) (by omega) (by omega) (by omega) (by omega)).mono fun v V4 l4 ⟨r4, hv, hr4⟩ => ⟨r4, hv, ?_⟩
      refine (CallO.nums (ne _ _) (transform_stage_owned m' S T (by omega) (by simp [everyF_length]; omega) (by simp [everyF_length]; omega) hr4 (hr1.le (View.le_trans l2 (View.le_trans l3 l4))) (bz 1 (by omega)) bw (by omega))).mono fun v V5 l5 ⟨r5, hv, hr5⟩ => ⟨r5, hv, ?_⟩
      have le5 : View.le V V5 := View.le_trans l1 (View.le_trans l2 (View.le_trans l3 (View.le_trans l4 l5)))
      have hdiv : IntKind.i64.wrap (Int.tdiv (p.len : Int) 2) = ((2 ^ m' : Nat) : Int) := by
        have e : Int.tdiv (p.len : Int) 2 = ((2 ^ m' : Nat) : Int) := by
          rw [Int.tdiv_eq_ediv_of_nonneg (by omega)]; omega
        rw [e]; exact i64w (by omega) (by omega)
      rw [hdiv]
      refine ⟨⟨m', _, _, rfl, rfl, rfl, hr3.le (View.le_trans l4 l5), hr5, Int.le_refl 0, Int.natCast_nonneg _, ?_⟩, ?_⟩
      · simp only [Int.toNat_zero, halves_zero, Int.toNat_natCast, hpl, hz, hp2]
        exact NumsIn.zeros _ _
      rintro ⟨t, o⟩ V6 l6 ⟨m2, zs', ws', em, rfl, rfl, h8, h9, h0, h1', hin⟩
      have em : m' = m2 := by omega
      subst em
      simp only at h8 h9 h0 h1' hin ⊢
      have lz := stageF_length m' (everyF zs 0) (everyF ws 0)
      have lw := stageF_length m' (everyF zs 1) (everyF ws 0)
      have l8 := h8.len
      have l9 := h9.len
      have lo : ∀ k a b, (halves (2 ^ m') k a b).length = 2 * 2 ^ m' := by intro k a b; simp [halves]
      refine ⟨fun hlt => ?_, fun hge => ?_⟩
      · simp only [decide_eq_true_eq] at hlt
        have hk : t.toNat < 2 ^ m' := by omega
        obtain ⟨hb4, x4, hx4, hs4, hn4⟩ := h9.get h0 (by omega)
        obtain ⟨hb5, x5, hx5, hs5, hn5⟩ := (hq.le (View.le_trans le5 l6)).get h0 (by omega)
        have sE := stageF_sz m' (everyF zs 0) (everyF ws 0) S T (by simp [everyF_length]; omega) (by simp [everyF_length]; omega) (bz 0 (by omega)) bw t.toNat hk
        have sO := stageF_sz m' (everyF zs 1) (everyF ws 0) S T (by simp [everyF_length]; omega) (by simp [everyF_length]; omega) (bz 1 (by omega)) bw t.toNat hk
        have sW := hT t.toNat (by omega)
        have hm2 : S + T + 2 ≤ 2 ^ m' * (S + T + 2) := Nat.le_mul_of_pos_left _ (Nat.pow_pos (by omega))
        have sU := Cq.sz_mul (nth (stageF m' (everyF zs 1) (everyF ws 0)) t.toNat) (nth ws t.toNat)
        refine ⟨hb4, x4, hx4, hs4, hb5, x5, hx5, hs5, (Num_Mul_spec hn4 hn5 (by omega) (by omega)).mono fun v V7 l7 ⟨r6, hv, hr6⟩ => ⟨r6, hv, ?_⟩⟩
        obtain ⟨hb6, x6, hx6, hs6, hn6⟩ := (h8.le l7).get h0 (by omega)
        refine ⟨hb6, x6, hx6, hs6, hb6, x6, hx6, hs6, (Num_Add_spec hn6 hr6 (by omega) (by omega)).mono fun v V8 l8' ⟨r7, hv, hr7⟩ => ⟨r7, hv, ?_⟩⟩
        refine (Num_Sub_spec (hn6.le l8') (hr6.le l8') (by omega) (by omega)).mono fun v V9 l9' ⟨r8, hv, hr8⟩ => ⟨r8, hv, ⟨h0, ?_⟩, ?_, ?_⟩
        · omega
        · exact Cells.room hin (by rw [lo]; omega)
        have ek : IntKind.i64.wrap (t + ((2 ^ m' : Nat) : Int)) = t + ((2 ^ m' : Nat) : Int) := i64w (by omega) (by omega)
        have ek2 : Int.toNat (t + ((2 ^ m' : Nat) : Int)) = t.toNat + 2 ^ m' := by omega
        have et : IntKind.i64.wrap (t + 1) = t + 1 := i64w (by omega) (by omega)
        have et2 : (t + 1).toNat = t.toNat + 1 := by omega
        rw [ek, ek2]
        have in9 := hin.le (View.le_trans l7 (View.le_trans l8' l9'))
        have s1 := in9.set (i := t.toNat) (by rw [lo]; omega) (hr7.le l9')
        have s2 := s1.set (i := t.toNat + 2 ^ m') (by rw [List.length_set, lo]; omega) hr8
        refine ⟨⟨by omega, by omega⟩, ?_, ⟨m', _, _, rfl, rfl, rfl, h8.le (View.le_trans l7 (View.le_trans l8' l9')), h9.le (View.le_trans l7 (View.le_trans l8' l9')), by rw [et]; omega, by rw [et]; omega, ?_⟩, by simp only [et, et2]; omega⟩
        · exact Cells.room s1 (by rw [List.length_set, lo]; omega)
        · simp only [et, et2]
          rw [← halves_set hk]
          exact s2
      · simp only [decide_eq_false_iff_not] at hge
        have e : t.toNat = 2 ^ m' := by omega
        rw [e] at hin
        have e2 : halves (2 ^ m') (2 ^ m') (fun i => nth (stageF m' (everyF zs 0) (everyF ws 0)) i + nth (stageF m' (everyF zs 1) (everyF ws 0)) i * nth ws i)
            (fun i => nth (stageF m' (everyF zs 0) (everyF ws 0)) i - nth (stageF m' (everyF zs 1) (everyF ws 0)) i * nth ws i) = stageF (m' + 1) zs ws := by
          have h2 := list_of_nth (stageF (m' + 1) zs ws)
          rw [stageF_length] at h2
          rw [← h2]
          unfold halves
          rw [← hp2]
          apply List.map_congr_left
          intro i hi
          have hi : i < 2 ^ (m' + 1) := by simpa using hi
          rw [stageF, nth_map hi]
          split
          · rfl
          · rw [if_pos (by omega)]
        rw [e2] at hin
        refine ⟨⟨by omega, ?_⟩, by omega, by simp, by simp, hin⟩
        intro eo
        subst eo
        have := Cells.length hin
        rw [stageF_length] at this
        simp at this; omega

namespace Go.Proofs.Ytcapadojlaojkaa
open Go Go.Vc Go.Proofs Go.ChangeShapes Go.RowKit

/-- What is to be known of the type of plain numbers. -/
structure RatTy (P : Program) (t : TypeId) : Prop where
  fields : ∃ f0 f1 f2 : Field, P.underlying t = some (.struct #[f0, f1, f2]) ∧ (f0.offset = 0 ∧ f1.offset = 1 ∧ f2.offset = 2) ∧
    (P.underlying f0.type = some (.int .i64) ∧ P.underlying f1.type = some (.int .i64) ∧ P.underlying f2.type = some (.int .i64)) ∧ (P.cellsOf f0.type = 1 ∧ P.cellsOf f1.type = 1 ∧ P.cellsOf f2.type = 1)
  cells : P.cellsOf t = 3

section
variable {H : Type} {enc : TypeId × Value → H} {P : Program} {w : World} {base : Nat} {spare : Nat → Bool} {held : Bool}

theorem trod_rat {t : TypeId} {fuel : Nat} {cs : List Value} {x : DataW H × List MemPlace} (ht : RatTy P t) (h : DataW.trod enc P w base spare held fuel t cs = some x) : ∃ r : RatV, ratI r ∧ cs = r.val.cells.toList := by
  obtain ⟨f0, f1, f2, hR, ⟨o0, o1, o2⟩, ⟨i0, i1, i2⟩, c0, c1, c2⟩ := ht.fields
  obtain ⟨xs, n, _, _, hl, hxs, hf⟩ := DataW.trod_struct hR h
  rw [ht.cells] at hl
  match cs, hl with
  | [a, b, c], _ =>
    have g0 := hf 0 f0 rfl
    have g1 := hf 1 f1 rfl
    have g2 := hf 2 f2 rfl
    rw [o0, c0] at g0
    rw [o1, c1] at g1
    rw [o2, c2] at g2
    have hs : xs.length = 3 := hxs
    match xs, hs with
    | [y0, y1, y2], _ =>
      obtain ⟨n0, e0, _, w0⟩ := DataW.trod_int i0 g0
      obtain ⟨n1, e1, _, w1⟩ := DataW.trod_int i1 g1
      obtain ⟨n2, e2, _, w2⟩ := DataW.trod_int i2 g2
      simp at e0 e1 e2
      subst e0; subst e1; subst e2
      exact ⟨⟨n0, n1, n2⟩, ⟨bounds_i64 w0, bounds_i64 w1, bounds_i64 w2⟩, rfl⟩

/-- The block of an argument, known. -/
def blockView (w : World) (b : Nat) : View := fun i => if i = b then (match w.heap[b]? with | some (.cells cs _ _) => some cs | _ => none) else none
theorem blockView_in (w : World) (b : Nat) : (blockView w b).In w := by
  intro i cs hi
  unfold blockView at hi
  split at hi
  · rename_i e; subst e
    split at hi
    · rename_i cs' T fr hw
      simp at hi; subst hi
      exact ⟨T, fr, hw⟩
    · simp at hi
  · simp at hi
theorem blockView_load {w : World} {p : Addr} {v : Value} (h : w.cell? p = some v) : (blockView w p.block).load (some p) = some v := by
  unfold World.cell? at h
  unfold View.load blockView
  split at h
  · rename_i c T fr hw
    simp only [hw, if_true]
    split at h
    · simp at h
    · rename_i hs
      simp only [hs]
      simpa using h
  · simp at h

theorem add_block (a : Addr) (n : Nat) : (a.add n).block = a.block := by unfold Addr.add; split <;> rfl

theorem open_rats {t e : TypeId} {v : Value} {d : DataW H} {ps : List MemPlace} (ht : P.underlying t = some (.slice e)) (he : RatTy P e) (hv : ∃ a l c, v = .slice a l c) (h : DataW.Trod enc P w 0 spare held t v d ps) :
    ∃ (s : Sl) (rs : List RatV) (V : View), v = s.v ∧ V.In w ∧ RatsAt V s rs ∧ rs.length ≤ maxLen ∧ ∀ r ∈ rs, ratI r := by
  obtain ⟨a0, l0, c0, rfl⟩ := hv
  obtain ⟨fuel, h⟩ := h
  rcases Go.Deep.open_slice ht h with ⟨h1, _⟩ | ⟨a, len, cap, m, n, D, Pl, h1, _, hl, hm, hmm, _, hx⟩
  · have h1 : (Value.slice a0 l0 c0) = .slice none 0 0 := by simpa [Value.cells] using h1
    injection h1 with e1 e2 e3
    subst e1; subst e2; subst e3
    exact ⟨Sl.mk none 0 0, [], fun _ => none, rfl, fun b cs hb => by simp at hb, ListAt.nil, Nat.zero_le _, by intro r hr; simp at hr⟩
  · have h1 : (Value.slice a0 l0 c0) = .slice (some a) len cap := by simpa [Value.cells] using h1
    injection h1 with e1 e2 e3
    subst e1; subst e2; subst e3
    have hlm : l0 ≤ m := by rw [hmm]; split <;> omega
    have key : ∀ k, k ≤ l0 → ∃ (rs : List RatV) (o : List Value), rs.length = k ∧ (∀ r ∈ rs, ratI r) ∧ Cells 3 ratC (blockView w a.block) o rs ∧ (blockView w a.block).has (some a) o := by
      intro k
      induction k with
      | zero => intro _; exact ⟨[], [], rfl, by intro r hr; simp at hr, rfl, by intro j v hj; simp at hj⟩
      | succ k ih =>
        intro hk
        obtain ⟨rs, o, hrl, hri, hc, ho⟩ := ih (by omega)
        obtain ⟨cs', g1, g2⟩ := hx k (by omega)
        obtain ⟨r, hr, er⟩ := trod_rat he g2
        rw [he.cells] at g1
        obtain ⟨_, hcl, hcell⟩ := World.cells?_some g1
        have hol := hc.length
        refine ⟨rs ++ [r], o ++ cs', by simp [hrl], ?_, hc.append (Cells.one hcl er), ?_⟩
        · intro x hx
          rcases List.mem_append.1 hx with h | h
          · exact hri x h
          · simp at h; subst h; exact hr
        · intro j v hj
          by_cases hjo : j < o.length
          · rw [List.getElem?_append_left hjo] at hj
            exact ho j v hj
          · rw [List.getElem?_append_right (by omega)] at hj
            have hj3 : j - o.length < 3 := by
              rcases Nat.lt_or_ge (j - o.length) cs'.length with h | h
              · omega
              · rw [List.getElem?_eq_none h] at hj; simp at hj
            have hcj := hcell (j - o.length) hj3
            rw [hj, addr_add2] at hcj
            have e : k * 3 + (j - o.length) = j := by rw [hol, hrl]; omega
            rw [e] at hcj
            have := blockView_load hcj
            rw [add_block] at this
            exact this
    obtain ⟨rs, o, hrl, hri, hc, ho⟩ := key l0 (Nat.le_refl _)
    exact ⟨Sl.mk (some a) l0 c0, rs, blockView w a.block, rfl, blockView_in w a.block, ⟨hrl.symm, hl, fun _ => rfl, o, ho, hc⟩, by omega, hri⟩
end

/-- A plain number that came in. -/
theorem open_rat {H : Type} {enc : TypeId × Value → H} {P : Program} {w : World} {base : Nat} {spare : Nat → Bool} {held : Bool} {e : TypeId} {v : Value} {d : DataW H} {ps : List MemPlace} (he : RatTy P e)
    (h : DataW.Trod enc P w base spare held e v d ps) : ∃ r : RatV, ratI r ∧ v = r.val := by
  obtain ⟨fuel, h⟩ := h
  obtain ⟨r, hr, e1⟩ := trod_rat he h
  refine ⟨r, hr, ?_⟩
  cases v with
  | agg cs =>
    have e2 : cs.toList = [.int .i64 r.re, .int .i64 r.im, .int .i64 r.den] := e1
    have : cs = #[.int .i64 r.re, .int .i64 r.im, .int .i64 r.den] := by rw [← Array.toList_inj]; exact e2
    rw [this]; rfl
  | _ => exact absurd (congrArg List.length e1) (by simp [Value.cells, RatV.val])

/-- A call whose answer is known in a world that fits. -/
theorem CallV.fits {P : Program} {f : FuncId} {args : Array Value} {r : Value} {V : View} (h : CallV P f args V fun v _ => v = r) {w : World} (hw : V.In w) :
    Calls P f args w fun e w' => e = .returned r ∧ Below w.heap.size w w' :=
  (h w hw).mono fun _ _ ⟨_, _, he, _, _, _, hb, hr⟩ => ⟨by rw [he, hr], hb⟩

theorem trodAll_below {H : Type} {enc : TypeId × Value → H} {P : Program} (hl : laidOutB P = true) {W W' : World} (hb : Below W.heap.size W W') :
    ∀ {ts : List TypeId} {vs : List Value} {ds : List (DataW H)} {ps : List MemPlace}, (∀ t ∈ ts, P.readableRec t = true ∧ t < P.types.size) → (∀ p ∈ ps, p.block < W.heap.size) →
    DataW.TrodAll enc P W 0 (fun _ => true) true ts vs ds ps → DataW.TrodAll enc P W' 0 (fun b => decide (b < W.heap.size)) true ts vs ds ps
  | [], [], [], _, _, _, h => h
  | t :: ts, v :: vs, d :: ds, ps, ht, hlt, ⟨p, q, h1, h2, e⟩ => by
    subst e
    exact ⟨p, q, Below.trod hl (ht t (by simp)).1 (ht t (by simp)).2 h1 hb (fun x hx => hlt x (by simp [hx])),
      trodAll_below hl hb (fun t' ht' => ht t' (by simp [ht'])) (fun x hx => hlt x (by simp [hx])) h2, rfl⟩
  | [], [], _ :: _, _, _, _, h => h.elim
  | [], _ :: _, _, _, _, _, h => h.elim
  | _ :: _, [], _, _, _, _, h => h.elim
  | _ :: _, _ :: _, [], _, _, _, h => h.elim

/-- What is to be shown of a run that only read its arguments. -/
theorem post_of_read {H : Type} {enc : TypeId × Value → H} {P : Program} {f : Func} {s : ChangeSpec} {apart fresh handsOn : Bool} {W W' : World} {args : Array Value} {v : Value} {ds : List (DataW H)} {before : List MemPlace}
    (hl : laidOutB P = true) (ht : ∀ t ∈ f.params.toList, P.readableRec t = true ∧ t < P.types.size)
    (hW : DataW.Whole enc P f.params.toList s.vars apart W args.toList ds [] before) (hA : DataW.TrodAll enc P W 0 (fun _ => true) true f.params.toList args.toList ds before)
    (hres : ∀ (b : Nat) (sp : Nat → Bool) (hd : Bool), DataW.TrodAll enc P W' b sp hd f.resultTypes.toList (v.resultList f.resultTypes.size) (s.fn H (ds ++ [])).results [])
    (hargs : (s.fn H (ds ++ [])).args = ds) (hvars : ∀ sp : Nat → Bool, DataW.TrodVars enc P W' sp s.vars (s.fn H (ds ++ [])).vars []) (hb : Below W.heap.size W W') : s.post enc P f apart fresh handsOn false W args v W' := by
  refine ⟨ds, [], before, [], before, [], hW, hres _ _ _, ?_, hvars _, World.keptBut_mono (fun p hp => ⟨hp, .inr (.inl hp)⟩) (hb.frame (· ∈ before)), fun h => Bool.noConfusion h⟩
  rw [hargs]
  exact trodAll_below hl hb ht (fun p hp => hW.lt p hp) hA
end Go.Proofs.Ytcapadojlaojkaa

set_option maxRecDepth 100000
set_option maxHeartbeats 4000000
namespace Go.Proofs.Ytcapadojlaojkaa
open Go Go.Vc Go.Proofs

structure L_transform_Shift_num_Num__0 where
  t17 : Int
  o14 : List Value
/-- waveport/transform.Shift[waveport/num.Num] -/
theorem transform_Shift_num_Num__vc (p0 : Sl) (p1 : Int) (V : View) (R : Value → View → Prop) (I_transform_Shift_num_Num__0 : Unit → L_transform_Shift_num_Num__0 → View → Prop) (mu_transform_Shift_num_Num__0 : Unit → L_transform_Shift_num_Num__0 → View → Nat)
  (h :
    ((decide (((p0.len : Int) : Int) > 64)) = true →
      R (.tuple #[(Sl.mk none 0 0).v, .int .i64 4]) V) ∧
    ((decide (((p0.len : Int) : Int) > 64)) = false →
      ((0 : Int) ≤ (p0.len : Int) ∧ ((p0.len : Int) : Int) ≤ (p0.len : Int) ∧ (88 : Int) * (p0.len : Int) ≤ 281474976710656 ∧ ((p0.len : Int) : Int) ≤ 9223372036854775807) ∧
    I_transform_Shift_num_Num__0 () (L_transform_Shift_num_Num__0.mk 0 ((List.replicate (Int.toNat (p0.len : Int)) [Value.bool false, Value.slice none 0 0, Value.bool false, Value.slice none 0 0, Value.slice none 0 0]).flatten)) V ∧
    (∀ (x2 : L_transform_Shift_num_Num__0) (V1 : View), View.le V V1 → I_transform_Shift_num_Num__0 () x2 V1 →
      ((decide ((x2.t17 : Int) < (p0.len : Int))) = true →
        ((p0.len : Int) : Int) ≠ 0 ∧
      ((p0.len : Int) : Int) ≠ 0 ∧
      ((0 : Int) ≤ x2.t17 ∧ (x2.t17 : Int) < (p0.len : Nat) ∧ Option.isSome p0.a = true) ∧
      ∃ x3 : NumV, View.has V1 (Option.map (fun q => Addr.add q (Int.toNat x2.t17 * 5)) p0.a) (x3.val).cells.toList ∧ Option.isSome (Option.map (fun q => Addr.add q (Int.toNat x2.t17 * 5)) p0.a) = true ∧
      ((0 : Int) ≤ (Int.tmod (IntKind.i64.wrap ((IntKind.i64.wrap (x2.t17 + (Int.tmod p1 (p0.len : Int)))) + (p0.len : Int))) (p0.len : Int)) ∧ ((Int.tmod (IntKind.i64.wrap ((IntKind.i64.wrap (x2.t17 + (Int.tmod p1 (p0.len : Int)))) + (p0.len : Int))) (p0.len : Int)) : Int) < (Int.toNat (p0.len : Int) : Nat)) ∧
      0 + Int.toNat (Int.tmod (IntKind.i64.wrap ((IntKind.i64.wrap (x2.t17 + (Int.tmod p1 (p0.len : Int)))) + (p0.len : Int))) (p0.len : Int)) * 5 + 5 ≤ List.length x2.o14 ∧
      I_transform_Shift_num_Num__0 () (L_transform_Shift_num_Num__0.mk (IntKind.i64.wrap (x2.t17 + 1)) (setL x2.o14 (0 + Int.toNat (Int.tmod (IntKind.i64.wrap ((IntKind.i64.wrap (x2.t17 + (Int.tmod p1 (p0.len : Int)))) + (p0.len : Int))) (p0.len : Int)) * 5) [.bool x3.re.neg, x3.re.mag.v, .bool x3.im.neg, x3.im.mag.v, x3.under.v])) V1 ∧ mu_transform_Shift_num_Num__0 () (L_transform_Shift_num_Num__0.mk (IntKind.i64.wrap (x2.t17 + 1)) (setL x2.o14 (0 + Int.toNat (Int.tmod (IntKind.i64.wrap ((IntKind.i64.wrap (x2.t17 + (Int.tmod p1 (p0.len : Int)))) + (p0.len : Int))) (p0.len : Int)) * 5) [.bool x3.re.neg, x3.re.mag.v, .bool x3.im.neg, x3.im.mag.v, x3.under.v])) V1 < mu_transform_Shift_num_Num__0 () x2 V1) ∧
      ((decide ((x2.t17 : Int) < (p0.len : Int))) = false →
        ∀ (b1 : Nat) (V2 : View), View.le V1 V2 → V2 b1 = some (List.toArray x2.o14) →
    R (.tuple #[(Sl.mk (some (Addr.mk b1 0 none)) (Int.toNat (p0.len : Int)) (Int.toNat (p0.len : Int))).v, .int .i64 0]) V2)))) :
  CallV Try.prog 25 #[p0.v, .int .i64 p1] V R :=
  calls_of_vc (Shp := Shp) hmixed Try.func25 (c := Try.f25.body.getD .skip) (args := [p0.v, .int .i64 p1]) (by kernel_rfl)
    (.seq (.reg [⟨4, 2, false⟩, ⟨5, 2, false⟩]) (.seq (.reg [⟨9, 2, false⟩, ⟨10, 0, false⟩, ⟨6, 2, false⟩]) (.seq (.seq (.reg [⟨11, 2, false⟩, ⟨12, 0, false⟩]) (.cond (.seq (.reg [⟨4, 2, false⟩, ⟨5, 2, false⟩]) .leaf) .leaf)) (.seq (.reg [⟨13, 2, false⟩, ⟨14, 3, false⟩, ⟨7, 2, false⟩]) (.seq (.seq (.reg [⟨15, 2, false⟩, ⟨16, 0, false⟩, ⟨17, 2, false⟩]) (.block (.loop Unit L_transform_Shift_num_Num__0 (fun _ => ()) (fun c x => { tm := spT 37 0 [(0, .val (p0.v)), (1, .val (.int .i64 p1)), (6, .val (.int .i64 (p0.len : Int))), (7, .osl 14 0 (Int.toNat (p0.len : Int)) (Int.toNat (p0.len : Int))), (16, .val (.int .i64 (p0.len : Int))), (17, .val (.int .i64 x.t17))], own := spO 37 0 [(14, ⟨67, .dyn x.o14⟩)] }) I_transform_Shift_num_Num__0 mu_transform_Shift_num_Num__0 (.seq (.reg [⟨18, 0, false⟩]) (.seq (.cond .leaf .leaf) (.seq (.block (.seq (.reg [⟨19, 2, false⟩, ⟨8, 2, false⟩]) (.draw [(0, ⟨20, 2, false⟩), (1, ⟨21, 2, false⟩), (2, ⟨22, 2, false⟩), (3, ⟨23, 2, false⟩), (4, ⟨24, 12, false⟩), (5, ⟨25, 0, false⟩), (6, ⟨26, 2, false⟩), (7, ⟨27, 0, false⟩), (8, ⟨28, 2, false⟩), (9, ⟨29, 12, false⟩), (10, ⟨30, 2, false⟩), (11, ⟨31, 2, false⟩), (12, ⟨32, 7, false⟩), (13, ⟨33, 5, false⟩), (14, ⟨34, 7, false⟩), (15, ⟨14, 6, false⟩)] [0, 0, 0, 0, 12, 30, 0, 126, 0, 510, 0, 0, 3072, 7168, 16383, 32767]))) (.reg [⟨35, 0, false⟩, ⟨17, 2, false⟩]))))))) (.seq (.reg [⟨36, 2, false⟩, ⟨4, 2, false⟩, ⟨5, 2, false⟩]) (.pub 14 .leaf)))))))
    (Eq.mpr (by kernel_rfl) (show ((decide (((p0.len : Int) : Int) > 64)) = true →
      R (.tuple #[(Sl.mk none 0 0).v, .int .i64 4]) V) ∧
    ((decide (((p0.len : Int) : Int) > 64)) = false →
      ((0 : Int) ≤ (p0.len : Int) ∧ ((p0.len : Int) : Int) ≤ (p0.len : Int) ∧ (88 : Int) * (p0.len : Int) ≤ 281474976710656 ∧ ((p0.len : Int) : Int) ≤ 9223372036854775807) ∧
    (∃ x1 : L_transform_Shift_num_Num__0, ((SV.val (p0.v) = SV.val (p0.v) ∧ SV.val (.int .i64 p1) = SV.val (.int .i64 p1) ∧ SV.val (.int .i64 (p0.len : Int)) = SV.val (.int .i64 (p0.len : Int)) ∧ SV.osl 14 0 (Int.toNat (p0.len : Int)) (Int.toNat (p0.len : Int)) = SV.osl 14 0 (Int.toNat (p0.len : Int)) (Int.toNat (p0.len : Int)) ∧ SV.val (.int .i64 (p0.len : Int)) = SV.val (.int .i64 (p0.len : Int)) ∧ SV.val (.int .i64 0) = SV.val (.int .i64 x1.t17) ∧ True) ∧ ((some (⟨67, .dyn ((List.replicate (Int.toNat (p0.len : Int)) [Value.bool false, Value.slice none 0 0, Value.bool false, Value.slice none 0 0, Value.slice none 0 0]).flatten)⟩) : Option OB) = some (⟨67, .dyn x1.o14⟩) ∧ True)) ∧ I_transform_Shift_num_Num__0 () x1 V) ∧
    (∀ (x2 : L_transform_Shift_num_Num__0) (V1 : View), View.le V V1 → I_transform_Shift_num_Num__0 () x2 V1 →
      ((decide ((x2.t17 : Int) < (p0.len : Int))) = true →
        ((p0.len : Int) : Int) ≠ 0 ∧
      ((p0.len : Int) : Int) ≠ 0 ∧
      ((0 : Int) ≤ x2.t17 ∧ (x2.t17 : Int) < (p0.len : Nat) ∧ Option.isSome p0.a = true) ∧
      ∃ x3 : NumV, View.has V1 (Option.map (fun q => Addr.add q (Int.toNat x2.t17 * 5)) p0.a) (x3.val).cells.toList ∧ Option.isSome (Option.map (fun q => Addr.add q (Int.toNat x2.t17 * 5)) p0.a) = true ∧
      ((0 : Int) ≤ (Int.tmod (IntKind.i64.wrap ((IntKind.i64.wrap (x2.t17 + (Int.tmod p1 (p0.len : Int)))) + (p0.len : Int))) (p0.len : Int)) ∧ ((Int.tmod (IntKind.i64.wrap ((IntKind.i64.wrap (x2.t17 + (Int.tmod p1 (p0.len : Int)))) + (p0.len : Int))) (p0.len : Int)) : Int) < (Int.toNat (p0.len : Int) : Nat)) ∧
      0 + Int.toNat (Int.tmod (IntKind.i64.wrap ((IntKind.i64.wrap (x2.t17 + (Int.tmod p1 (p0.len : Int)))) + (p0.len : Int))) (p0.len : Int)) * 5 + 5 ≤ List.length x2.o14 ∧
      ∃ x4 : L_transform_Shift_num_Num__0, ((SV.val (p0.v) = SV.val (p0.v) ∧ SV.val (.int .i64 p1) = SV.val (.int .i64 p1) ∧ SV.val (.int .i64 (p0.len : Int)) = SV.val (.int .i64 (p0.len : Int)) ∧ SV.osl 14 0 (Int.toNat (p0.len : Int)) (Int.toNat (p0.len : Int)) = SV.osl 14 0 (Int.toNat (p0.len : Int)) (Int.toNat (p0.len : Int)) ∧ SV.val (.int .i64 (p0.len : Int)) = SV.val (.int .i64 (p0.len : Int)) ∧ SV.val (.int .i64 (IntKind.i64.wrap (x2.t17 + 1))) = SV.val (.int .i64 x4.t17) ∧ True) ∧ ((some (⟨67, .dyn (setL x2.o14 (0 + Int.toNat (Int.tmod (IntKind.i64.wrap ((IntKind.i64.wrap (x2.t17 + (Int.tmod p1 (p0.len : Int)))) + (p0.len : Int))) (p0.len : Int)) * 5) [.bool x3.re.neg, x3.re.mag.v, .bool x3.im.neg, x3.im.mag.v, x3.under.v])⟩) : Option OB) = some (⟨67, .dyn x4.o14⟩) ∧ True)) ∧ I_transform_Shift_num_Num__0 () x4 V1 ∧ mu_transform_Shift_num_Num__0 () x4 V1 < mu_transform_Shift_num_Num__0 () x2 V1) ∧
      ((decide ((x2.t17 : Int) < (p0.len : Int))) = false →
        ∀ (b1 : Nat) (V2 : View), View.le V1 V2 → V2 b1 = some (List.toArray x2.o14) →
    R (.tuple #[(Sl.mk (some (Addr.mk b1 0 none)) (Int.toNat (p0.len : Int)) (Int.toNat (p0.len : Int))).v, .int .i64 0]) V2))) from ⟨fun h9 => (h.1 h9), fun h9 => ⟨(h.2 h9).1, ⟨⟨(L_transform_Shift_num_Num__0.mk 0 ((List.replicate (Int.toNat (p0.len : Int)) [Value.bool false, Value.slice none 0 0, Value.bool false, Value.slice none 0 0, Value.slice none 0 0]).flatten)), ⟨⟨rfl, rfl, rfl, rfl, rfl, rfl, trivial⟩, ⟨rfl, trivial⟩⟩, (h.2 h9).2.1⟩, fun x2 V1 h7 h8 => ⟨fun h6 => ⟨(((h.2 h9).2.2 x2 V1 h7 h8).1 h6).1, ⟨(((h.2 h9).2.2 x2 V1 h7 h8).1 h6).2.1, ⟨(((h.2 h9).2.2 x2 V1 h7 h8).1 h6).2.2.1, (match (((h.2 h9).2.2 x2 V1 h7 h8).1 h6).2.2.2 with | ⟨x3, h2, h3, h1⟩ => ⟨x3, h2, h3, ⟨h1.1, ⟨h1.2.1, ⟨(L_transform_Shift_num_Num__0.mk (IntKind.i64.wrap (x2.t17 + 1)) (setL x2.o14 (0 + Int.toNat (Int.tmod (IntKind.i64.wrap ((IntKind.i64.wrap (x2.t17 + (Int.tmod p1 (p0.len : Int)))) + (p0.len : Int))) (p0.len : Int)) * 5) [.bool x3.re.neg, x3.re.mag.v, .bool x3.im.neg, x3.im.mag.v, x3.under.v])), ⟨⟨rfl, rfl, rfl, rfl, rfl, rfl, trivial⟩, ⟨rfl, trivial⟩⟩, h1.2.2.1, h1.2.2.2⟩⟩⟩⟩)⟩⟩⟩, fun h6 => (fun b1 V2 h4 h5 => ((((h.2 h9).2.2 x2 V1 h7 h8).2 h6) b1 V2 h4 h5))⟩⟩⟩⟩))

/-- waveport/waveportref07.pair -/
theorem waveportref07_pair_vc (p0 : Sl) (p1 : Sl) (V : View) (R : Value → View → Prop) 
  (h :
    ((((p0.len : Int) : Int) == (p1.len : Int)) = true →
    R (.bool (decide (((p0.len : Int) : Int) ≤ 64))) V) ∧
    ((((p0.len : Int) : Int) == (p1.len : Int)) = false →
    R (.bool false) V)) :
  CallV Try.prog 76 #[p0.v, p1.v] V R :=
  calls_of_vc (Shp := Shp) hmixed Try.func76 (c := Try.f76.body.getD .skip) (args := [p0.v, p1.v]) (by kernel_rfl)
    (.seq (.reg [⟨4, 2, false⟩]) (.seq (.reg [⟨5, 2, false⟩, ⟨6, 0, false⟩, ⟨7, 2, false⟩, ⟨8, 0, false⟩, ⟨9, 0, false⟩, ⟨10, 2, true⟩, ⟨11, 2, false⟩, ⟨12, 0, false⟩, ⟨13, 0, false⟩, ⟨14, 2, false⟩, ⟨4, 2, false⟩]) .leaf))
    (Eq.mpr (by kernel_rfl) h)

/-- waveport/waveportref07.Moved -/
theorem waveportref07_Moved_vc (p0 : Int) (p1 : Int) (p2 : Int) (V : View) (R : Value → View → Prop) 
  (h :
    (p2 : Int) ≠ 0 ∧
    ((decide (((Int.tmod p1 p2) : Int) < 0)) = true →
      (p2 : Int) ≠ 0 ∧
    R (.int .i64 (Int.tmod (IntKind.i64.wrap (p0 + (IntKind.i64.wrap ((Int.tmod p1 p2) + p2)))) p2)) V) ∧
    ((decide (((Int.tmod p1 p2) : Int) < 0)) = false →
      (p2 : Int) ≠ 0 ∧
    R (.int .i64 (Int.tmod (IntKind.i64.wrap (p0 + (Int.tmod p1 p2))) p2)) V)) :
  CallV Try.prog 77 #[.int .i64 p0, .int .i64 p1, .int .i64 p2] V R :=
  calls_of_vc (Shp := Shp) hmixed Try.func77 (c := Try.f77.body.getD .skip) (args := [.int .i64 p0, .int .i64 p1, .int .i64 p2]) (by kernel_rfl)
    (.seq (.reg [⟨6, 2, false⟩]) (.seq (.reg [⟨8, 2, false⟩, ⟨9, 2, false⟩, ⟨10, 12, false⟩, ⟨7, 2, false⟩]) (.seq (.seq (.reg [⟨11, 2, false⟩, ⟨12, 0, false⟩]) (.cond (.reg [⟨13, 2, false⟩, ⟨14, 2, false⟩, ⟨15, 0, false⟩, ⟨7, 2, false⟩]) .leaf)) (.seq (.reg [⟨16, 2, false⟩, ⟨17, 2, false⟩, ⟨18, 0, false⟩, ⟨19, 2, false⟩, ⟨20, 12, false⟩, ⟨6, 2, false⟩]) .leaf))))
    (Eq.mpr (by kernel_rfl) h)

structure L_waveportref07_Shift_0 where
  t7 : Int
  o14 : List Value
/-- waveport/waveportref07.Shift -/
theorem waveportref07_Shift_vc (p0 : Sl) (p1 : Int) (V : View) (R : Value → View → Prop) (I_waveportref07_Shift_0 : Unit → L_waveportref07_Shift_0 → View → Prop) (mu_waveportref07_Shift_0 : Unit → L_waveportref07_Shift_0 → View → Nat)
  (h :
    CallV Try.prog 76 #[p0.v, p0.v] V fun v V1 => ∃ r1 : Bool, v = .bool r1 ∧ -- waveportref07.pair
    ((!r1) = true →
      R (.tuple #[(Sl.mk none 0 0).v, .int .i64 4]) V1) ∧
    ((!r1) = false →
      ((0 : Int) ≤ (p0.len : Int) ∧ ((p0.len : Int) : Int) ≤ (p0.len : Int) ∧ (88 : Int) * (p0.len : Int) ≤ 281474976710656 ∧ ((p0.len : Int) : Int) ≤ 9223372036854775807) ∧
    I_waveportref07_Shift_0 () (L_waveportref07_Shift_0.mk 0 ((List.replicate (Int.toNat (p0.len : Int)) [Value.bool false, Value.slice none 0 0, Value.bool false, Value.slice none 0 0, Value.slice none 0 0]).flatten)) V1 ∧
    (∀ (x2 : L_waveportref07_Shift_0) (V2 : View), View.le V1 V2 → I_waveportref07_Shift_0 () x2 V2 →
      ((decide ((x2.t7 : Int) < (p0.len : Int))) = true →
        ((0 : Int) ≤ x2.t7 ∧ (x2.t7 : Int) < (p0.len : Nat) ∧ Option.isSome p0.a = true) ∧
      ∃ x3 : NumV, View.has V2 (Option.map (fun q => Addr.add q (Int.toNat x2.t7 * 5)) p0.a) (x3.val).cells.toList ∧ Option.isSome (Option.map (fun q => Addr.add q (Int.toNat x2.t7 * 5)) p0.a) = true ∧
      CallV Try.prog 77 #[.int .i64 x2.t7, .int .i64 p1, .int .i64 (p0.len : Int)] V2 fun v V3 => ∃ r2 : Int, v = .int .i64 r2 ∧ -- waveportref07.Moved
      ((0 : Int) ≤ r2 ∧ (r2 : Int) < (Int.toNat (p0.len : Int) : Nat)) ∧
      0 + Int.toNat r2 * 5 + 5 ≤ List.length x2.o14 ∧
      I_waveportref07_Shift_0 () (L_waveportref07_Shift_0.mk (IntKind.i64.wrap (x2.t7 + 1)) (setL x2.o14 (0 + Int.toNat r2 * 5) [.bool x3.re.neg, x3.re.mag.v, .bool x3.im.neg, x3.im.mag.v, x3.under.v])) V3 ∧ mu_waveportref07_Shift_0 () (L_waveportref07_Shift_0.mk (IntKind.i64.wrap (x2.t7 + 1)) (setL x2.o14 (0 + Int.toNat r2 * 5) [.bool x3.re.neg, x3.re.mag.v, .bool x3.im.neg, x3.im.mag.v, x3.under.v])) V3 < mu_waveportref07_Shift_0 () x2 V2) ∧
      ((decide ((x2.t7 : Int) < (p0.len : Int))) = false →
        ∀ (b1 : Nat) (V4 : View), View.le V2 V4 → V4 b1 = some (List.toArray x2.o14) →
    R (.tuple #[(Sl.mk (some (Addr.mk b1 0 none)) (Int.toNat (p0.len : Int)) (Int.toNat (p0.len : Int))).v, .int .i64 0]) V4)))) :
  CallV Try.prog 27 #[p0.v, .int .i64 p1] V R :=
  calls_of_vc (Shp := Shp) hmixed Try.func27 (c := Try.f27.body.getD .skip) (args := [p0.v, .int .i64 p1]) (by kernel_rfl)
    (.seq (.reg [⟨4, 2, false⟩, ⟨5, 2, false⟩]) (.seq (.seq (.reg [⟨8, 2, false⟩, ⟨9, 2, false⟩, ⟨10, 10, false⟩, ⟨11, 0, false⟩]) (.cond (.seq (.reg [⟨4, 2, false⟩, ⟨5, 2, false⟩]) .leaf) .leaf)) (.seq (.reg [⟨12, 2, false⟩, ⟨13, 0, false⟩, ⟨14, 3, false⟩, ⟨6, 2, false⟩]) (.seq (.seq (.reg [⟨7, 2, false⟩]) (.block (.loop Unit L_waveportref07_Shift_0 (fun _ => ()) (fun c x => { tm := spT 33 0 [(0, .val (p0.v)), (1, .val (.int .i64 p1)), (6, .osl 14 0 (Int.toNat (p0.len : Int)) (Int.toNat (p0.len : Int))), (7, .val (.int .i64 x.t7))], own := spO 33 0 [(14, ⟨77, .dyn x.o14⟩)] }) I_waveportref07_Shift_0 mu_waveportref07_Shift_0 (.seq (.seq (.reg [⟨15, 2, false⟩, ⟨16, 2, false⟩, ⟨17, 0, false⟩, ⟨18, 0, false⟩]) (.cond .leaf .leaf)) (.seq (.block (.draw [(0, ⟨21, 2, false⟩), (1, ⟨22, 2, false⟩), (2, ⟨23, 2, false⟩), (3, ⟨24, 2, false⟩), (4, ⟨25, 0, false⟩), (6, ⟨27, 2, false⟩), (7, ⟨28, 2, false⟩), (8, ⟨29, 7, false⟩), (9, ⟨30, 5, false⟩), (5, ⟨26, 10, false⟩), (10, ⟨31, 7, false⟩), (11, ⟨14, 6, false⟩)] [0, 0, 0, 0, 8, 30, 0, 0, 192, 448, 1023, 2047])) (.reg [⟨19, 2, false⟩, ⟨20, 0, false⟩, ⟨7, 2, false⟩])))))) (.seq (.reg [⟨32, 2, false⟩, ⟨4, 2, false⟩, ⟨5, 2, false⟩]) (.pub 14 .leaf))))))
    (Eq.mpr (by kernel_rfl) (show CallV Try.prog 76 #[p0.v, p0.v] V fun v V1 => ∃ r1 : Bool, v = .bool r1 ∧ -- waveportref07.pair
    ((!r1) = true →
      R (.tuple #[(Sl.mk none 0 0).v, .int .i64 4]) V1) ∧
    ((!r1) = false →
      ((0 : Int) ≤ (p0.len : Int) ∧ ((p0.len : Int) : Int) ≤ (p0.len : Int) ∧ (88 : Int) * (p0.len : Int) ≤ 281474976710656 ∧ ((p0.len : Int) : Int) ≤ 9223372036854775807) ∧
    (∃ x1 : L_waveportref07_Shift_0, ((SV.val (p0.v) = SV.val (p0.v) ∧ SV.val (.int .i64 p1) = SV.val (.int .i64 p1) ∧ SV.osl 14 0 (Int.toNat (p0.len : Int)) (Int.toNat (p0.len : Int)) = SV.osl 14 0 (Int.toNat (p0.len : Int)) (Int.toNat (p0.len : Int)) ∧ SV.val (.int .i64 0) = SV.val (.int .i64 x1.t7) ∧ True) ∧ ((some (⟨77, .dyn ((List.replicate (Int.toNat (p0.len : Int)) [Value.bool false, Value.slice none 0 0, Value.bool false, Value.slice none 0 0, Value.slice none 0 0]).flatten)⟩) : Option OB) = some (⟨77, .dyn x1.o14⟩) ∧ True)) ∧ I_waveportref07_Shift_0 () x1 V1) ∧
    (∀ (x2 : L_waveportref07_Shift_0) (V2 : View), View.le V1 V2 → I_waveportref07_Shift_0 () x2 V2 →
      ((decide ((x2.t7 : Int) < (p0.len : Int))) = true →
        ((0 : Int) ≤ x2.t7 ∧ (x2.t7 : Int) < (p0.len : Nat) ∧ Option.isSome p0.a = true) ∧
      ∃ x3 : NumV, View.has V2 (Option.map (fun q => Addr.add q (Int.toNat x2.t7 * 5)) p0.a) (x3.val).cells.toList ∧ Option.isSome (Option.map (fun q => Addr.add q (Int.toNat x2.t7 * 5)) p0.a) = true ∧
      CallV Try.prog 77 #[.int .i64 x2.t7, .int .i64 p1, .int .i64 (p0.len : Int)] V2 fun v V3 => ∃ r2 : Int, v = .int .i64 r2 ∧ -- waveportref07.Moved
      ((0 : Int) ≤ r2 ∧ (r2 : Int) < (Int.toNat (p0.len : Int) : Nat)) ∧
      0 + Int.toNat r2 * 5 + 5 ≤ List.length x2.o14 ∧
      ∃ x4 : L_waveportref07_Shift_0, ((SV.val (p0.v) = SV.val (p0.v) ∧ SV.val (.int .i64 p1) = SV.val (.int .i64 p1) ∧ SV.osl 14 0 (Int.toNat (p0.len : Int)) (Int.toNat (p0.len : Int)) = SV.osl 14 0 (Int.toNat (p0.len : Int)) (Int.toNat (p0.len : Int)) ∧ SV.val (.int .i64 (IntKind.i64.wrap (x2.t7 + 1))) = SV.val (.int .i64 x4.t7) ∧ True) ∧ ((some (⟨77, .dyn (setL x2.o14 (0 + Int.toNat r2 * 5) [.bool x3.re.neg, x3.re.mag.v, .bool x3.im.neg, x3.im.mag.v, x3.under.v])⟩) : Option OB) = some (⟨77, .dyn x4.o14⟩) ∧ True)) ∧ I_waveportref07_Shift_0 () x4 V3 ∧ mu_waveportref07_Shift_0 () x4 V3 < mu_waveportref07_Shift_0 () x2 V2) ∧
      ((decide ((x2.t7 : Int) < (p0.len : Int))) = false →
        ∀ (b1 : Nat) (V4 : View), View.le V2 V4 → V4 b1 = some (List.toArray x2.o14) →
    R (.tuple #[(Sl.mk (some (Addr.mk b1 0 none)) (Int.toNat (p0.len : Int)) (Int.toNat (p0.len : Int))).v, .int .i64 0]) V4))) from (CallV.mono h (fun _ _ _ ⟨r1, h13, h12⟩ => ⟨r1, h13, ⟨fun h11 => (h12.1 h11), fun h11 => ⟨(h12.2 h11).1, ⟨⟨(L_waveportref07_Shift_0.mk 0 ((List.replicate (Int.toNat (p0.len : Int)) [Value.bool false, Value.slice none 0 0, Value.bool false, Value.slice none 0 0, Value.slice none 0 0]).flatten)), ⟨⟨rfl, rfl, rfl, rfl, trivial⟩, ⟨rfl, trivial⟩⟩, (h12.2 h11).2.1⟩, fun x2 V2 h9 h10 => ⟨fun h8 => ⟨(((h12.2 h11).2.2 x2 V2 h9 h10).1 h8).1, (match (((h12.2 h11).2.2 x2 V2 h9 h10).1 h8).2 with | ⟨x3, h4, h5, h3⟩ => ⟨x3, h4, h5, (CallV.mono h3 (fun _ _ _ ⟨r2, h2, h1⟩ => ⟨r2, h2, ⟨h1.1, ⟨h1.2.1, ⟨(L_waveportref07_Shift_0.mk (IntKind.i64.wrap (x2.t7 + 1)) (setL x2.o14 (0 + Int.toNat r2 * 5) [.bool x3.re.neg, x3.re.mag.v, .bool x3.im.neg, x3.im.mag.v, x3.under.v])), ⟨⟨rfl, rfl, rfl, rfl, trivial⟩, ⟨rfl, trivial⟩⟩, h1.2.2.1, h1.2.2.2⟩⟩⟩⟩))⟩)⟩, fun h8 => (fun b1 V4 h6 h7 => ((((h12.2 h11).2.2 x2 V2 h9 h10).2 h8) b1 V4 h6 h7))⟩⟩⟩⟩⟩))))

structure L_waveportref07_Extend_0 where
  t8 : Int
  o18 : List Value
/-- waveport/waveportref07.Extend -/
theorem waveportref07_Extend_vc (p0 : Sl) (p1 : NumV) (V : View) (R : Value → View → Prop) (I_waveportref07_Extend_0 : Unit → L_waveportref07_Extend_0 → View → Prop) (mu_waveportref07_Extend_0 : Unit → L_waveportref07_Extend_0 → View → Nat)
  (h :
    CallV Try.prog 62 #[.int .i64 (IntKind.i64.wrap (2 * (IntKind.i64.wrap ((p0.len : Int) + 1))))] V fun v V1 => ∃ r1 : Bool, v = .bool r1 ∧ -- waveportref07.Length
    ((!r1) = true →
      R (.tuple #[(Sl.mk none 0 0).v, .int .i64 4]) V1) ∧
    ((!r1) = false →
      ((0 : Int) ≤ (IntKind.i64.wrap (2 * (IntKind.i64.wrap ((p0.len : Int) + 1)))) ∧ ((IntKind.i64.wrap (2 * (IntKind.i64.wrap ((p0.len : Int) + 1)))) : Int) ≤ (IntKind.i64.wrap (2 * (IntKind.i64.wrap ((p0.len : Int) + 1)))) ∧ (88 : Int) * (IntKind.i64.wrap (2 * (IntKind.i64.wrap ((p0.len : Int) + 1)))) ≤ 281474976710656 ∧ ((IntKind.i64.wrap (2 * (IntKind.i64.wrap ((p0.len : Int) + 1)))) : Int) ≤ 9223372036854775807) ∧
    ((0 : Int) ≤ 0 ∧ (0 : Int) < (Int.toNat (IntKind.i64.wrap (2 * (IntKind.i64.wrap ((p0.len : Int) + 1)))) : Nat)) ∧
    0 + Int.toNat 0 * 5 + 5 ≤ List.length ((List.replicate (Int.toNat (IntKind.i64.wrap (2 * (IntKind.i64.wrap ((p0.len : Int) + 1))))) [Value.bool false, Value.slice none 0 0, Value.bool false, Value.slice none 0 0, Value.slice none 0 0]).flatten) ∧
    CallV Try.prog 64 #[.int .i64 0] V1 fun v V2 => ∃ r2 : NumV, v = r2.val ∧ -- waveportref01.Whole
    ((0 : Int) ≤ (IntKind.i64.wrap ((p0.len : Int) + 1)) ∧ ((IntKind.i64.wrap ((p0.len : Int) + 1)) : Int) < (Int.toNat (IntKind.i64.wrap (2 * (IntKind.i64.wrap ((p0.len : Int) + 1)))) : Nat)) ∧
    0 + Int.toNat (IntKind.i64.wrap ((p0.len : Int) + 1)) * 5 + 5 ≤ List.length (setL ((List.replicate (Int.toNat (IntKind.i64.wrap (2 * (IntKind.i64.wrap ((p0.len : Int) + 1))))) [Value.bool false, Value.slice none 0 0, Value.bool false, Value.slice none 0 0, Value.slice none 0 0]).flatten) (0 + Int.toNat 0 * 5) [.bool p1.re.neg, p1.re.mag.v, .bool p1.im.neg, p1.im.mag.v, p1.under.v]) ∧
    I_waveportref07_Extend_0 () (L_waveportref07_Extend_0.mk 1 (setL (setL ((List.replicate (Int.toNat (IntKind.i64.wrap (2 * (IntKind.i64.wrap ((p0.len : Int) + 1))))) [Value.bool false, Value.slice none 0 0, Value.bool false, Value.slice none 0 0, Value.slice none 0 0]).flatten) (0 + Int.toNat 0 * 5) [.bool p1.re.neg, p1.re.mag.v, .bool p1.im.neg, p1.im.mag.v, p1.under.v]) (0 + Int.toNat (IntKind.i64.wrap ((p0.len : Int) + 1)) * 5) [.bool r2.re.neg, r2.re.mag.v, .bool r2.im.neg, r2.im.mag.v, r2.under.v])) V2 ∧
    (∀ (x2 : L_waveportref07_Extend_0) (V3 : View), View.le V2 V3 → I_waveportref07_Extend_0 () x2 V3 →
      ((decide ((x2.t8 : Int) < (IntKind.i64.wrap ((p0.len : Int) + 1)))) = true →
        ((0 : Int) ≤ (IntKind.i64.wrap (x2.t8 - 1)) ∧ ((IntKind.i64.wrap (x2.t8 - 1)) : Int) < (p0.len : Nat) ∧ Option.isSome p0.a = true) ∧
      ∃ x3 : NumV, View.has V3 (Option.map (fun q => Addr.add q (Int.toNat (IntKind.i64.wrap (x2.t8 - 1)) * 5)) p0.a) (x3.val).cells.toList ∧ Option.isSome (Option.map (fun q => Addr.add q (Int.toNat (IntKind.i64.wrap (x2.t8 - 1)) * 5)) p0.a) = true ∧
      ((0 : Int) ≤ x2.t8 ∧ (x2.t8 : Int) < (Int.toNat (IntKind.i64.wrap (2 * (IntKind.i64.wrap ((p0.len : Int) + 1)))) : Nat)) ∧
      0 + Int.toNat x2.t8 * 5 + 5 ≤ List.length x2.o18 ∧
      ((0 : Int) ≤ (IntKind.i64.wrap (x2.t8 - 1)) ∧ ((IntKind.i64.wrap (x2.t8 - 1)) : Int) < (p0.len : Nat) ∧ Option.isSome p0.a = true) ∧
      ∃ x4 : NumV, View.has V3 (Option.map (fun q => Addr.add q (Int.toNat (IntKind.i64.wrap (x2.t8 - 1)) * 5)) p0.a) (x4.val).cells.toList ∧ Option.isSome (Option.map (fun q => Addr.add q (Int.toNat (IntKind.i64.wrap (x2.t8 - 1)) * 5)) p0.a) = true ∧
      CallV Try.prog 79 #[x4.val] V3 fun v V4 => ∃ r3 : NumV, v = r3.val ∧ -- waveportref01.Conj
      ((0 : Int) ≤ (IntKind.i64.wrap ((IntKind.i64.wrap (2 * (IntKind.i64.wrap ((p0.len : Int) + 1)))) - x2.t8)) ∧ ((IntKind.i64.wrap ((IntKind.i64.wrap (2 * (IntKind.i64.wrap ((p0.len : Int) + 1)))) - x2.t8)) : Int) < (Int.toNat (IntKind.i64.wrap (2 * (IntKind.i64.wrap ((p0.len : Int) + 1)))) : Nat)) ∧
      0 + Int.toNat (IntKind.i64.wrap ((IntKind.i64.wrap (2 * (IntKind.i64.wrap ((p0.len : Int) + 1)))) - x2.t8)) * 5 + 5 ≤ List.length (setL x2.o18 (0 + Int.toNat x2.t8 * 5) [.bool x3.re.neg, x3.re.mag.v, .bool x3.im.neg, x3.im.mag.v, x3.under.v]) ∧
      I_waveportref07_Extend_0 () (L_waveportref07_Extend_0.mk (IntKind.i64.wrap (x2.t8 + 1)) (setL (setL x2.o18 (0 + Int.toNat x2.t8 * 5) [.bool x3.re.neg, x3.re.mag.v, .bool x3.im.neg, x3.im.mag.v, x3.under.v]) (0 + Int.toNat (IntKind.i64.wrap ((IntKind.i64.wrap (2 * (IntKind.i64.wrap ((p0.len : Int) + 1)))) - x2.t8)) * 5) [.bool r3.re.neg, r3.re.mag.v, .bool r3.im.neg, r3.im.mag.v, r3.under.v])) V4 ∧ mu_waveportref07_Extend_0 () (L_waveportref07_Extend_0.mk (IntKind.i64.wrap (x2.t8 + 1)) (setL (setL x2.o18 (0 + Int.toNat x2.t8 * 5) [.bool x3.re.neg, x3.re.mag.v, .bool x3.im.neg, x3.im.mag.v, x3.under.v]) (0 + Int.toNat (IntKind.i64.wrap ((IntKind.i64.wrap (2 * (IntKind.i64.wrap ((p0.len : Int) + 1)))) - x2.t8)) * 5) [.bool r3.re.neg, r3.re.mag.v, .bool r3.im.neg, r3.im.mag.v, r3.under.v])) V4 < mu_waveportref07_Extend_0 () x2 V3) ∧
      ((decide ((x2.t8 : Int) < (IntKind.i64.wrap ((p0.len : Int) + 1)))) = false →
        ∀ (b1 : Nat) (V5 : View), View.le V3 V5 → V5 b1 = some (List.toArray x2.o18) →
    R (.tuple #[(Sl.mk (some (Addr.mk b1 0 none)) (Int.toNat (IntKind.i64.wrap (2 * (IntKind.i64.wrap ((p0.len : Int) + 1))))) (Int.toNat (IntKind.i64.wrap (2 * (IntKind.i64.wrap ((p0.len : Int) + 1)))))).v, .int .i64 0]) V5)))) :
  CallV Try.prog 31 #[p0.v, p1.val] V R :=
  calls_of_vc (Shp := Shp) hmixed Try.func31 (c := Try.f31.body.getD .skip) (args := [p0.v, p1.val]) (by kernel_rfl)
    (.seq (.reg [⟨3, 3, false⟩, ⟨4, 2, false⟩, ⟨5, 2, false⟩]) (.seq (.reg [⟨9, 2, false⟩, ⟨10, 0, false⟩, ⟨11, 0, false⟩, ⟨6, 2, false⟩]) (.seq (.seq (.reg [⟨12, 2, false⟩, ⟨13, 0, false⟩, ⟨14, 10, false⟩, ⟨15, 0, false⟩]) (.cond (.seq (.reg [⟨4, 2, false⟩, ⟨5, 2, false⟩]) .leaf) .leaf)) (.seq (.reg [⟨16, 2, false⟩, ⟨17, 0, false⟩, ⟨18, 3, false⟩, ⟨7, 2, false⟩]) (.seq (.reg [⟨19, 2, false⟩, ⟨3, 4, false⟩, ⟨21, 7, false⟩, ⟨18, 6, false⟩]) (.seq (.reg [⟨22, 2, false⟩, ⟨23, 2, false⟩, ⟨24, 10, false⟩, ⟨25, 7, false⟩, ⟨18, 6, false⟩]) (.seq (.seq (.reg [⟨8, 2, false⟩]) (.block (.loop Unit L_waveportref07_Extend_0 (fun _ => ()) (fun c x => { tm := spT 52 0 [(0, .val (p0.v)), (6, .val (.int .i64 (IntKind.i64.wrap ((p0.len : Int) + 1)))), (7, .osl 18 0 (Int.toNat (IntKind.i64.wrap (2 * (IntKind.i64.wrap ((p0.len : Int) + 1))))) (Int.toNat (IntKind.i64.wrap (2 * (IntKind.i64.wrap ((p0.len : Int) + 1)))))), (8, .val (.int .i64 x.t8))], own := spO 52 0 [(18, ⟨77, .dyn x.o18⟩)] }) I_waveportref07_Extend_0 mu_waveportref07_Extend_0 (.seq (.seq (.reg [⟨26, 2, false⟩, ⟨27, 2, false⟩, ⟨28, 0, false⟩]) (.cond .leaf .leaf)) (.seq (.block (.seq (.reg [⟨31, 2, false⟩, ⟨32, 2, false⟩, ⟨33, 2, false⟩, ⟨34, 2, false⟩, ⟨35, 0, false⟩, ⟨36, 7, false⟩, ⟨37, 5, false⟩, ⟨38, 7, false⟩, ⟨18, 6, false⟩]) (.reg [⟨39, 2, false⟩, ⟨40, 2, false⟩, ⟨41, 0, false⟩, ⟨42, 2, false⟩, ⟨43, 0, false⟩, ⟨44, 2, false⟩, ⟨45, 2, false⟩, ⟨46, 0, false⟩, ⟨47, 7, false⟩, ⟨48, 5, false⟩, ⟨49, 10, false⟩, ⟨50, 7, false⟩, ⟨18, 6, false⟩]))) (.reg [⟨29, 2, false⟩, ⟨30, 0, false⟩, ⟨8, 2, false⟩])))))) (.seq (.reg [⟨51, 2, false⟩, ⟨4, 2, false⟩, ⟨5, 2, false⟩]) (.pub 18 .leaf)))))))))
    (Eq.mpr (by kernel_rfl) (show CallV Try.prog 62 #[.int .i64 (IntKind.i64.wrap (2 * (IntKind.i64.wrap ((p0.len : Int) + 1))))] V fun v V1 => ∃ r1 : Bool, v = .bool r1 ∧ -- waveportref07.Length
    ((!r1) = true →
      R (.tuple #[(Sl.mk none 0 0).v, .int .i64 4]) V1) ∧
    ((!r1) = false →
      ((0 : Int) ≤ (IntKind.i64.wrap (2 * (IntKind.i64.wrap ((p0.len : Int) + 1)))) ∧ ((IntKind.i64.wrap (2 * (IntKind.i64.wrap ((p0.len : Int) + 1)))) : Int) ≤ (IntKind.i64.wrap (2 * (IntKind.i64.wrap ((p0.len : Int) + 1)))) ∧ (88 : Int) * (IntKind.i64.wrap (2 * (IntKind.i64.wrap ((p0.len : Int) + 1)))) ≤ 281474976710656 ∧ ((IntKind.i64.wrap (2 * (IntKind.i64.wrap ((p0.len : Int) + 1)))) : Int) ≤ 9223372036854775807) ∧
    ((0 : Int) ≤ 0 ∧ (0 : Int) < (Int.toNat (IntKind.i64.wrap (2 * (IntKind.i64.wrap ((p0.len : Int) + 1)))) : Nat)) ∧
    0 + Int.toNat 0 * 5 + 5 ≤ List.length ((List.replicate (Int.toNat (IntKind.i64.wrap (2 * (IntKind.i64.wrap ((p0.len : Int) + 1))))) [Value.bool false, Value.slice none 0 0, Value.bool false, Value.slice none 0 0, Value.slice none 0 0]).flatten) ∧
    CallV Try.prog 64 #[.int .i64 0] V1 fun v V2 => ∃ r2 : NumV, v = r2.val ∧ -- waveportref01.Whole
    ((0 : Int) ≤ (IntKind.i64.wrap ((p0.len : Int) + 1)) ∧ ((IntKind.i64.wrap ((p0.len : Int) + 1)) : Int) < (Int.toNat (IntKind.i64.wrap (2 * (IntKind.i64.wrap ((p0.len : Int) + 1)))) : Nat)) ∧
    0 + Int.toNat (IntKind.i64.wrap ((p0.len : Int) + 1)) * 5 + 5 ≤ List.length (setL ((List.replicate (Int.toNat (IntKind.i64.wrap (2 * (IntKind.i64.wrap ((p0.len : Int) + 1))))) [Value.bool false, Value.slice none 0 0, Value.bool false, Value.slice none 0 0, Value.slice none 0 0]).flatten) (0 + Int.toNat 0 * 5) [.bool p1.re.neg, p1.re.mag.v, .bool p1.im.neg, p1.im.mag.v, p1.under.v]) ∧
    (∃ x1 : L_waveportref07_Extend_0, ((SV.val (p0.v) = SV.val (p0.v) ∧ SV.val (.int .i64 (IntKind.i64.wrap ((p0.len : Int) + 1))) = SV.val (.int .i64 (IntKind.i64.wrap ((p0.len : Int) + 1))) ∧ SV.osl 18 0 (Int.toNat (IntKind.i64.wrap (2 * (IntKind.i64.wrap ((p0.len : Int) + 1))))) (Int.toNat (IntKind.i64.wrap (2 * (IntKind.i64.wrap ((p0.len : Int) + 1))))) = SV.osl 18 0 (Int.toNat (IntKind.i64.wrap (2 * (IntKind.i64.wrap ((p0.len : Int) + 1))))) (Int.toNat (IntKind.i64.wrap (2 * (IntKind.i64.wrap ((p0.len : Int) + 1))))) ∧ SV.val (.int .i64 1) = SV.val (.int .i64 x1.t8) ∧ True) ∧ ((some (⟨77, .dyn (setL (setL ((List.replicate (Int.toNat (IntKind.i64.wrap (2 * (IntKind.i64.wrap ((p0.len : Int) + 1))))) [Value.bool false, Value.slice none 0 0, Value.bool false, Value.slice none 0 0, Value.slice none 0 0]).flatten) (0 + Int.toNat 0 * 5) [.bool p1.re.neg, p1.re.mag.v, .bool p1.im.neg, p1.im.mag.v, p1.under.v]) (0 + Int.toNat (IntKind.i64.wrap ((p0.len : Int) + 1)) * 5) [.bool r2.re.neg, r2.re.mag.v, .bool r2.im.neg, r2.im.mag.v, r2.under.v])⟩) : Option OB) = some (⟨77, .dyn x1.o18⟩) ∧ True)) ∧ I_waveportref07_Extend_0 () x1 V2) ∧
    (∀ (x2 : L_waveportref07_Extend_0) (V3 : View), View.le V2 V3 → I_waveportref07_Extend_0 () x2 V3 →
      ((decide ((x2.t8 : Int) < (IntKind.i64.wrap ((p0.len : Int) + 1)))) = true →
        ((0 : Int) ≤ (IntKind.i64.wrap (x2.t8 - 1)) ∧ ((IntKind.i64.wrap (x2.t8 - 1)) : Int) < (p0.len : Nat) ∧ Option.isSome p0.a = true) ∧
      ∃ x3 : NumV, View.has V3 (Option.map (fun q => Addr.add q (Int.toNat (IntKind.i64.wrap (x2.t8 - 1)) * 5)) p0.a) (x3.val).cells.toList ∧ Option.isSome (Option.map (fun q => Addr.add q (Int.toNat (IntKind.i64.wrap (x2.t8 - 1)) * 5)) p0.a) = true ∧
      ((0 : Int) ≤ x2.t8 ∧ (x2.t8 : Int) < (Int.toNat (IntKind.i64.wrap (2 * (IntKind.i64.wrap ((p0.len : Int) + 1)))) : Nat)) ∧
      0 + Int.toNat x2.t8 * 5 + 5 ≤ List.length x2.o18 ∧
      ((0 : Int) ≤ (IntKind.i64.wrap (x2.t8 - 1)) ∧ ((IntKind.i64.wrap (x2.t8 - 1)) : Int) < (p0.len : Nat) ∧ Option.isSome p0.a = true) ∧
      ∃ x4 : NumV, View.has V3 (Option.map (fun q => Addr.add q (Int.toNat (IntKind.i64.wrap (x2.t8 - 1)) * 5)) p0.a) (x4.val).cells.toList ∧ Option.isSome (Option.map (fun q => Addr.add q (Int.toNat (IntKind.i64.wrap (x2.t8 - 1)) * 5)) p0.a) = true ∧
      CallV Try.prog 79 #[x4.val] V3 fun v V4 => ∃ r3 : NumV, v = r3.val ∧ -- waveportref01.Conj
      ((0 : Int) ≤ (IntKind.i64.wrap ((IntKind.i64.wrap (2 * (IntKind.i64.wrap ((p0.len : Int) + 1)))) - x2.t8)) ∧ ((IntKind.i64.wrap ((IntKind.i64.wrap (2 * (IntKind.i64.wrap ((p0.len : Int) + 1)))) - x2.t8)) : Int) < (Int.toNat (IntKind.i64.wrap (2 * (IntKind.i64.wrap ((p0.len : Int) + 1)))) : Nat)) ∧
      0 + Int.toNat (IntKind.i64.wrap ((IntKind.i64.wrap (2 * (IntKind.i64.wrap ((p0.len : Int) + 1)))) - x2.t8)) * 5 + 5 ≤ List.length (setL x2.o18 (0 + Int.toNat x2.t8 * 5) [.bool x3.re.neg, x3.re.mag.v, .bool x3.im.neg, x3.im.mag.v, x3.under.v]) ∧
      ∃ x5 : L_waveportref07_Extend_0, ((SV.val (p0.v) = SV.val (p0.v) ∧ SV.val (.int .i64 (IntKind.i64.wrap ((p0.len : Int) + 1))) = SV.val (.int .i64 (IntKind.i64.wrap ((p0.len : Int) + 1))) ∧ SV.osl 18 0 (Int.toNat (IntKind.i64.wrap (2 * (IntKind.i64.wrap ((p0.len : Int) + 1))))) (Int.toNat (IntKind.i64.wrap (2 * (IntKind.i64.wrap ((p0.len : Int) + 1))))) = SV.osl 18 0 (Int.toNat (IntKind.i64.wrap (2 * (IntKind.i64.wrap ((p0.len : Int) + 1))))) (Int.toNat (IntKind.i64.wrap (2 * (IntKind.i64.wrap ((p0.len : Int) + 1))))) ∧ SV.val (.int .i64 (IntKind.i64.wrap (x2.t8 + 1))) = SV.val (.int .i64 x5.t8) ∧ True) ∧ ((some (⟨77, .dyn (setL (setL x2.o18 (0 + Int.toNat x2.t8 * 5) [.bool x3.re.neg, x3.re.mag.v, .bool x3.im.neg, x3.im.mag.v, x3.under.v]) (0 + Int.toNat (IntKind.i64.wrap ((IntKind.i64.wrap (2 * (IntKind.i64.wrap ((p0.len : Int) + 1)))) - x2.t8)) * 5) [.bool r3.re.neg, r3.re.mag.v, .bool r3.im.neg, r3.im.mag.v, r3.under.v])⟩) : Option OB) = some (⟨77, .dyn x5.o18⟩) ∧ True)) ∧ I_waveportref07_Extend_0 () x5 V4 ∧ mu_waveportref07_Extend_0 () x5 V4 < mu_waveportref07_Extend_0 () x2 V3) ∧
      ((decide ((x2.t8 : Int) < (IntKind.i64.wrap ((p0.len : Int) + 1)))) = false →
        ∀ (b1 : Nat) (V5 : View), View.le V3 V5 → V5 b1 = some (List.toArray x2.o18) →
    R (.tuple #[(Sl.mk (some (Addr.mk b1 0 none)) (Int.toNat (IntKind.i64.wrap (2 * (IntKind.i64.wrap ((p0.len : Int) + 1))))) (Int.toNat (IntKind.i64.wrap (2 * (IntKind.i64.wrap ((p0.len : Int) + 1)))))).v, .int .i64 0]) V5))) from (CallV.mono h (fun _ _ _ ⟨r1, h18, h17⟩ => ⟨r1, h18, ⟨fun h16 => (h17.1 h16), fun h16 => ⟨(h17.2 h16).1, ⟨(h17.2 h16).2.1, ⟨(h17.2 h16).2.2.1, (CallV.mono (h17.2 h16).2.2.2 (fun _ _ _ ⟨r2, h15, h14⟩ => ⟨r2, h15, ⟨h14.1, ⟨h14.2.1, ⟨⟨(L_waveportref07_Extend_0.mk 1 (setL (setL ((List.replicate (Int.toNat (IntKind.i64.wrap (2 * (IntKind.i64.wrap ((p0.len : Int) + 1))))) [Value.bool false, Value.slice none 0 0, Value.bool false, Value.slice none 0 0, Value.slice none 0 0]).flatten) (0 + Int.toNat 0 * 5) [.bool p1.re.neg, p1.re.mag.v, .bool p1.im.neg, p1.im.mag.v, p1.under.v]) (0 + Int.toNat (IntKind.i64.wrap ((p0.len : Int) + 1)) * 5) [.bool r2.re.neg, r2.re.mag.v, .bool r2.im.neg, r2.im.mag.v, r2.under.v])), ⟨⟨rfl, rfl, rfl, rfl, trivial⟩, ⟨rfl, trivial⟩⟩, h14.2.2.1⟩, fun x2 V3 h12 h13 => ⟨fun h11 => ⟨((h14.2.2.2 x2 V3 h12 h13).1 h11).1, (match ((h14.2.2.2 x2 V3 h12 h13).1 h11).2 with | ⟨x3, h7, h8, h6⟩ => ⟨x3, h7, h8, ⟨h6.1, ⟨h6.2.1, ⟨h6.2.2.1, (match h6.2.2.2 with | ⟨x4, h4, h5, h3⟩ => ⟨x4, h4, h5, (CallV.mono h3 (fun _ _ _ ⟨r3, h2, h1⟩ => ⟨r3, h2, ⟨h1.1, ⟨h1.2.1, ⟨(L_waveportref07_Extend_0.mk (IntKind.i64.wrap (x2.t8 + 1)) (setL (setL x2.o18 (0 + Int.toNat x2.t8 * 5) [.bool x3.re.neg, x3.re.mag.v, .bool x3.im.neg, x3.im.mag.v, x3.under.v]) (0 + Int.toNat (IntKind.i64.wrap ((IntKind.i64.wrap (2 * (IntKind.i64.wrap ((p0.len : Int) + 1)))) - x2.t8)) * 5) [.bool r3.re.neg, r3.re.mag.v, .bool r3.im.neg, r3.im.mag.v, r3.under.v])), ⟨⟨rfl, rfl, rfl, rfl, trivial⟩, ⟨rfl, trivial⟩⟩, h1.2.2.1, h1.2.2.2⟩⟩⟩⟩))⟩)⟩⟩⟩⟩)⟩, fun h11 => (fun b1 V5 h9 h10 => (((h14.2.2.2 x2 V3 h12 h13).2 h11) b1 V5 h9 h10))⟩⟩⟩⟩⟩))⟩⟩⟩⟩⟩))))

/-- waveport/transform.Zero[waveport/num.Num] -/
theorem transform_Zero_num_Num__vc (p0 : Sl) (V : View) (R : Value → View → Prop) 
  (h :
    ((decide (((p0.len : Int) : Int) < 2)) = true →
    (true = true →
      R (.tuple #[(NumV.mk (WhV.mk false (Sl.mk none 0 0)) (WhV.mk false (Sl.mk none 0 0)) (Sl.mk none 0 0)).val, .int .i64 4]) V) ∧
    (true = false →
      ((0 : Int) ≤ 0 ∧ (0 : Int) < (p0.len : Nat) ∧ Option.isSome p0.a = true) ∧
    ∃ x1 : NumV, View.has V (Option.map (fun q => Addr.add q (Int.toNat 0 * 5)) p0.a) (x1.val).cells.toList ∧ Option.isSome (Option.map (fun q => Addr.add q (Int.toNat 0 * 5)) p0.a) = true ∧
    ((0 : Int) ≤ 0 ∧ (0 : Int) < (p0.len : Nat) ∧ Option.isSome p0.a = true) ∧
    ∃ x2 : NumV, View.has V (Option.map (fun q => Addr.add q (Int.toNat 0 * 5)) p0.a) (x2.val).cells.toList ∧ Option.isSome (Option.map (fun q => Addr.add q (Int.toNat 0 * 5)) p0.a) = true ∧
    ((0 : Int) ≤ 1 ∧ (1 : Int) < (p0.len : Nat) ∧ Option.isSome p0.a = true) ∧
    ∃ x3 : NumV, View.has V (Option.map (fun q => Addr.add q (Int.toNat 1 * 5)) p0.a) (x3.val).cells.toList ∧ Option.isSome (Option.map (fun q => Addr.add q (Int.toNat 1 * 5)) p0.a) = true ∧
    CallV Try.prog 66 #[x2.val, x3.val] V fun v V1 => ∃ r1 : NumV, v = r1.val ∧ -- (num.Num).Sub
    CallV Try.prog 102 #[x1.val, r1.val] V1 fun v V2 => ∃ r2 : NumV, v = r2.val ∧ -- (num.Num).Add
    CallV Try.prog 231 #[r2.val] V2 fun v V3 => ∃ r3 : NumV, v = r3.val ∧ -- (num.Num).Conj
    CallV Try.prog 102 #[r2.val, r3.val] V3 fun v V4 => ∃ r4 : NumV, v = r4.val ∧ -- (num.Num).Add
    CallV Try.prog 78 #[.int .i64 1, .int .i64 2] V4 fun v V5 => ∃ r5 : NumV, v = r5.val ∧ -- transform.of[num.Num]
    CallV Try.prog 67 #[r4.val, r5.val] V5 fun v V6 => ∃ r6 : NumV, v = r6.val ∧ -- (num.Num).Mul
    R (.tuple #[r6.val, .int .i64 0]) V6)) ∧
    ((decide (((p0.len : Int) : Int) < 2)) = false →
    ((decide (((p0.len : Int) : Int) > 64)) = true →
      R (.tuple #[(NumV.mk (WhV.mk false (Sl.mk none 0 0)) (WhV.mk false (Sl.mk none 0 0)) (Sl.mk none 0 0)).val, .int .i64 4]) V) ∧
    ((decide (((p0.len : Int) : Int) > 64)) = false →
      ((0 : Int) ≤ 0 ∧ (0 : Int) < (p0.len : Nat) ∧ Option.isSome p0.a = true) ∧
    ∃ x4 : NumV, View.has V (Option.map (fun q => Addr.add q (Int.toNat 0 * 5)) p0.a) (x4.val).cells.toList ∧ Option.isSome (Option.map (fun q => Addr.add q (Int.toNat 0 * 5)) p0.a) = true ∧
    ((0 : Int) ≤ 0 ∧ (0 : Int) < (p0.len : Nat) ∧ Option.isSome p0.a = true) ∧
    ∃ x5 : NumV, View.has V (Option.map (fun q => Addr.add q (Int.toNat 0 * 5)) p0.a) (x5.val).cells.toList ∧ Option.isSome (Option.map (fun q => Addr.add q (Int.toNat 0 * 5)) p0.a) = true ∧
    ((0 : Int) ≤ 1 ∧ (1 : Int) < (p0.len : Nat) ∧ Option.isSome p0.a = true) ∧
    ∃ x6 : NumV, View.has V (Option.map (fun q => Addr.add q (Int.toNat 1 * 5)) p0.a) (x6.val).cells.toList ∧ Option.isSome (Option.map (fun q => Addr.add q (Int.toNat 1 * 5)) p0.a) = true ∧
    CallV Try.prog 66 #[x5.val, x6.val] V fun v V7 => ∃ r7 : NumV, v = r7.val ∧ -- (num.Num).Sub
    CallV Try.prog 102 #[x4.val, r7.val] V7 fun v V8 => ∃ r8 : NumV, v = r8.val ∧ -- (num.Num).Add
    CallV Try.prog 231 #[r8.val] V8 fun v V9 => ∃ r9 : NumV, v = r9.val ∧ -- (num.Num).Conj
    CallV Try.prog 102 #[r8.val, r9.val] V9 fun v V10 => ∃ r10 : NumV, v = r10.val ∧ -- (num.Num).Add
    CallV Try.prog 78 #[.int .i64 1, .int .i64 2] V10 fun v V11 => ∃ r11 : NumV, v = r11.val ∧ -- transform.of[num.Num]
    CallV Try.prog 67 #[r10.val, r11.val] V11 fun v V12 => ∃ r12 : NumV, v = r12.val ∧ -- (num.Num).Mul
    R (.tuple #[r12.val, .int .i64 0]) V12))) :
  CallV Try.prog 33 #[p0.v] V R :=
  calls_of_vc (Shp := Shp) hmixed Try.func33 (c := Try.f33.body.getD .skip) (args := [p0.v]) (by kernel_rfl)
    (.seq (.reg [⟨2, 3, false⟩, ⟨3, 2, false⟩]) (.seq (.seq (.reg [⟨6, 2, false⟩, ⟨7, 0, false⟩, ⟨8, 0, false⟩, ⟨9, 2, true⟩, ⟨10, 2, false⟩, ⟨11, 0, false⟩, ⟨12, 0, false⟩, ⟨13, 2, false⟩]) (.cond (.seq (.reg [⟨4, 3, false⟩]) (.seq (.reg [⟨4, 4, false⟩, ⟨2, 6, false⟩, ⟨3, 2, false⟩]) .leaf)) .leaf)) (.seq (.draw [(0, ⟨15, 2, false⟩), (1, ⟨16, 7, false⟩), (2, ⟨17, 5, false⟩), (3, ⟨18, 0, false⟩), (4, ⟨19, 2, false⟩), (5, ⟨20, 7, false⟩), (6, ⟨21, 5, false⟩), (7, ⟨22, 0, false⟩), (8, ⟨23, 2, false⟩), (9, ⟨24, 7, false⟩), (10, ⟨25, 5, false⟩), (13, ⟨5, 3, false⟩), (11, ⟨26, 10, false⟩), (12, ⟨27, 10, false⟩), (14, ⟨5, 6, false⟩)] [0, 1, 3, 7, 0, 16, 48, 112, 0, 256, 768, 2032, 4095, 0, 16383]) (.seq (.draw [(0, ⟨5, 4, false⟩), (1, ⟨29, 0, false⟩), (2, ⟨5, 4, false⟩), (3, ⟨31, 0, false⟩), (4, ⟨32, 10, false⟩), (5, ⟨33, 10, false⟩), (6, ⟨34, 0, false⟩), (7, ⟨35, 10, false⟩), (8, ⟨36, 10, false⟩), (9, ⟨2, 6, false⟩), (10, ⟨3, 2, false⟩)] [0, 1, 0, 4, 12, 31, 63, 63, 255, 511, 1023]) .leaf))))
    (Eq.mpr (by kernel_rfl) h)

/-- waveport/waveportref07.Zero -/
theorem waveportref07_Zero_vc (p0 : Sl) (V : View) (R : Value → View → Prop) 
  (h :
    ((decide (((p0.len : Int) : Int) < 2)) = true →
    (true = true →
      CallV Try.prog 64 #[.int .i64 0] V fun v V1 => ∃ r1 : NumV, v = r1.val ∧ -- waveportref01.Whole
      R (.tuple #[r1.val, .int .i64 4]) V1) ∧
    (true = false →
      CallV Try.prog 63 #[.int .i64 1, .int .i64 0, .int .i64 2] V fun v V2 => ∃ (r2 : NumV) (r3 : Int), v = .tuple #[r2.val, .int .i64 r3] ∧ -- waveportref01.New
    ((0 : Int) ≤ 0 ∧ (0 : Int) < (p0.len : Nat) ∧ Option.isSome p0.a = true) ∧
    ∃ x1 : NumV, View.has V2 (Option.map (fun q => Addr.add q (Int.toNat 0 * 5)) p0.a) (x1.val).cells.toList ∧ Option.isSome (Option.map (fun q => Addr.add q (Int.toNat 0 * 5)) p0.a) = true ∧
    ((0 : Int) ≤ 0 ∧ (0 : Int) < (p0.len : Nat) ∧ Option.isSome p0.a = true) ∧
    ∃ x2 : NumV, View.has V2 (Option.map (fun q => Addr.add q (Int.toNat 0 * 5)) p0.a) (x2.val).cells.toList ∧ Option.isSome (Option.map (fun q => Addr.add q (Int.toNat 0 * 5)) p0.a) = true ∧
    ((0 : Int) ≤ 1 ∧ (1 : Int) < (p0.len : Nat) ∧ Option.isSome p0.a = true) ∧
    ∃ x3 : NumV, View.has V2 (Option.map (fun q => Addr.add q (Int.toNat 1 * 5)) p0.a) (x3.val).cells.toList ∧ Option.isSome (Option.map (fun q => Addr.add q (Int.toNat 1 * 5)) p0.a) = true ∧
    CallV Try.prog 70 #[x2.val, x3.val] V2 fun v V3 => ∃ r4 : NumV, v = r4.val ∧ -- waveportref01.Sub
    CallV Try.prog 80 #[x1.val, r4.val] V3 fun v V4 => ∃ r5 : NumV, v = r5.val ∧ -- waveportref01.Add
    CallV Try.prog 79 #[r5.val] V4 fun v V5 => ∃ r6 : NumV, v = r6.val ∧ -- waveportref01.Conj
    CallV Try.prog 80 #[r5.val, r6.val] V5 fun v V6 => ∃ r7 : NumV, v = r7.val ∧ -- waveportref01.Add
    CallV Try.prog 65 #[r7.val, r2.val] V6 fun v V7 => ∃ r8 : NumV, v = r8.val ∧ -- waveportref01.Mul
    R (.tuple #[r8.val, .int .i64 0]) V7)) ∧
    ((decide (((p0.len : Int) : Int) < 2)) = false →
    ((decide (((p0.len : Int) : Int) > 64)) = true →
      CallV Try.prog 64 #[.int .i64 0] V fun v V8 => ∃ r9 : NumV, v = r9.val ∧ -- waveportref01.Whole
      R (.tuple #[r9.val, .int .i64 4]) V8) ∧
    ((decide (((p0.len : Int) : Int) > 64)) = false →
      CallV Try.prog 63 #[.int .i64 1, .int .i64 0, .int .i64 2] V fun v V9 => ∃ (r10 : NumV) (r11 : Int), v = .tuple #[r10.val, .int .i64 r11] ∧ -- waveportref01.New
    ((0 : Int) ≤ 0 ∧ (0 : Int) < (p0.len : Nat) ∧ Option.isSome p0.a = true) ∧
    ∃ x4 : NumV, View.has V9 (Option.map (fun q => Addr.add q (Int.toNat 0 * 5)) p0.a) (x4.val).cells.toList ∧ Option.isSome (Option.map (fun q => Addr.add q (Int.toNat 0 * 5)) p0.a) = true ∧
    ((0 : Int) ≤ 0 ∧ (0 : Int) < (p0.len : Nat) ∧ Option.isSome p0.a = true) ∧
    ∃ x5 : NumV, View.has V9 (Option.map (fun q => Addr.add q (Int.toNat 0 * 5)) p0.a) (x5.val).cells.toList ∧ Option.isSome (Option.map (fun q => Addr.add q (Int.toNat 0 * 5)) p0.a) = true ∧
    ((0 : Int) ≤ 1 ∧ (1 : Int) < (p0.len : Nat) ∧ Option.isSome p0.a = true) ∧
    ∃ x6 : NumV, View.has V9 (Option.map (fun q => Addr.add q (Int.toNat 1 * 5)) p0.a) (x6.val).cells.toList ∧ Option.isSome (Option.map (fun q => Addr.add q (Int.toNat 1 * 5)) p0.a) = true ∧
    CallV Try.prog 70 #[x5.val, x6.val] V9 fun v V10 => ∃ r12 : NumV, v = r12.val ∧ -- waveportref01.Sub
    CallV Try.prog 80 #[x4.val, r12.val] V10 fun v V11 => ∃ r13 : NumV, v = r13.val ∧ -- waveportref01.Add
    CallV Try.prog 79 #[r13.val] V11 fun v V12 => ∃ r14 : NumV, v = r14.val ∧ -- waveportref01.Conj
    CallV Try.prog 80 #[r13.val, r14.val] V12 fun v V13 => ∃ r15 : NumV, v = r15.val ∧ -- waveportref01.Add
    CallV Try.prog 65 #[r15.val, r10.val] V13 fun v V14 => ∃ r16 : NumV, v = r16.val ∧ -- waveportref01.Mul
    R (.tuple #[r16.val, .int .i64 0]) V14))) :
  CallV Try.prog 34 #[p0.v] V R :=
  calls_of_vc (Shp := Shp) hmixed Try.func34 (c := Try.f34.body.getD .skip) (args := [p0.v]) (by kernel_rfl)
    (.seq (.reg [⟨2, 3, false⟩, ⟨3, 2, false⟩]) (.seq (.seq (.reg [⟨7, 2, false⟩, ⟨8, 0, false⟩, ⟨9, 0, false⟩, ⟨10, 2, true⟩, ⟨11, 2, false⟩, ⟨12, 0, false⟩, ⟨13, 0, false⟩, ⟨14, 2, false⟩]) (.cond (.seq (.reg [⟨15, 10, false⟩, ⟨2, 6, false⟩, ⟨3, 2, false⟩]) .leaf) .leaf)) (.seq (.reg [⟨17, 10, false⟩, ⟨16, 2, false⟩, ⟨18, 0, false⟩, ⟨19, 0, false⟩, ⟨4, 3, false⟩, ⟨4, 6, false⟩, ⟨5, 2, false⟩]) (.seq (.draw [(0, ⟨20, 2, false⟩), (1, ⟨21, 7, false⟩), (2, ⟨22, 5, false⟩), (3, ⟨23, 2, false⟩), (4, ⟨24, 7, false⟩), (5, ⟨25, 5, false⟩), (6, ⟨26, 2, false⟩), (7, ⟨27, 7, false⟩), (8, ⟨28, 5, false⟩), (11, ⟨6, 3, false⟩), (9, ⟨29, 10, false⟩), (10, ⟨30, 10, false⟩), (12, ⟨6, 6, false⟩)] [0, 1, 3, 0, 8, 24, 0, 64, 192, 504, 1023, 0, 4095]) (.seq (.draw [(0, ⟨6, 4, false⟩), (1, ⟨6, 4, false⟩), (4, ⟨4, 4, false⟩), (2, ⟨33, 10, false⟩), (3, ⟨34, 10, false⟩), (5, ⟨36, 10, false⟩), (6, ⟨2, 6, false⟩), (7, ⟨3, 2, false⟩)] [0, 0, 2, 7, 0, 31, 63, 127]) .leaf)))))
    (Eq.mpr (by kernel_rfl) h)

/-- waveport/waveportlaw07.TransformShifts -/
theorem waveportlaw07_TransformShifts_vc (p0 : Sl) (p1 : Int) (p2 : Int) (p3 : RatV) (V : View) (R : Value → View → Prop) 
  (h :
    ((decide (((p0.len : Int) : Int) > 8)) = true →
      CallV Try.prog 23 #[] V fun v V1 => ∃ r1 : Bool, v = .bool r1 ∧ -- waveportlaw07.awake
      R (.bool r1) V1) ∧
    ((decide (((p0.len : Int) : Int) > 8)) = false →
      CallV Try.prog 24 #[p0.v, .int .i64 (Int.tmod (IntKind.i64.wrap p1) 71)] V fun v V2 => ∃ r2 : Sl, v = r2.v ∧ -- waveportlaw07.repeated
    CallV Try.prog 26 #[r2.v] V2 fun v V3 => ∃ r3 : Sl, v = r3.v ∧ -- waveportlaw01.List
    CallV Try.prog 25 #[r3.v, .int .i64 p2] V3 fun v V4 => ∃ (r4 : Sl) (r5 : Int), v = .tuple #[r4.v, .int .i64 r5] ∧ -- transform.Shift[num.Num]
    CallV Try.prog 28 #[r2.v] V4 fun v V5 => ∃ r6 : Sl, v = r6.v ∧ -- waveportlaw07.refList
    CallV Try.prog 27 #[r6.v, .int .i64 p2] V5 fun v V6 => ∃ (r7 : Sl) (r8 : Int), v = .tuple #[r7.v, .int .i64 r8] ∧ -- waveportref07.Shift
    CallV Try.prog 22 #[r4.v, .int .i64 r5, r7.v, .int .i64 r8] V6 fun v V7 => ∃ r9 : Bool, v = .bool r9 ∧ -- waveportlaw07.answers
    ((!r9) = true →
      R (.bool false) V7) ∧
    ((!r9) = false →
      CallV Try.prog 26 #[r2.v] V7 fun v V8 => ∃ r10 : Sl, v = r10.v ∧ -- waveportlaw01.List
    CallV Try.prog 30 #[p3.val] V8 fun v V9 => ∃ r11 : NumV, v = r11.val ∧ -- waveportlaw01.Of
    CallV Try.prog 29 #[r10.v, r11.val] V9 fun v V10 => ∃ (r12 : Sl) (r13 : Int), v = .tuple #[r12.v, .int .i64 r13] ∧ -- transform.Extend[num.Num]
    CallV Try.prog 28 #[r2.v] V10 fun v V11 => ∃ r14 : Sl, v = r14.v ∧ -- waveportlaw07.refList
    CallV Try.prog 32 #[p3.val] V11 fun v V12 => ∃ r15 : NumV, v = r15.val ∧ -- waveportref01.Of
    CallV Try.prog 31 #[r14.v, r15.val] V12 fun v V13 => ∃ (r16 : Sl) (r17 : Int), v = .tuple #[r16.v, .int .i64 r17] ∧ -- waveportref07.Extend
    CallV Try.prog 26 #[r2.v] V13 fun v V14 => ∃ r18 : Sl, v = r18.v ∧ -- waveportlaw01.List
    CallV Try.prog 33 #[r18.v] V14 fun v V15 => ∃ (r19 : NumV) (r20 : Int), v = .tuple #[r19.val, .int .i64 r20] ∧ -- transform.Zero[num.Num]
    CallV Try.prog 28 #[r2.v] V15 fun v V16 => ∃ r21 : Sl, v = r21.v ∧ -- waveportlaw07.refList
    CallV Try.prog 34 #[r21.v] V16 fun v V17 => ∃ (r22 : NumV) (r23 : Int), v = .tuple #[r22.val, .int .i64 r23] ∧ -- waveportref07.Zero
    CallV Try.prog 22 #[r12.v, .int .i64 r13, r16.v, .int .i64 r17] V17 fun v V18 => ∃ r24 : Bool, v = .bool r24 ∧ -- waveportlaw07.answers
    (r24 = true →
    (((r20 : Int) == r23) = true →
    CallV Try.prog 35 #[r19.val, r22.val] V18 fun v V19 => ∃ r25 : Bool, v = .bool r25 ∧ -- waveportlaw01.Is
    (r25 = true →
    CallV Try.prog 23 #[] V19 fun v V20 => ∃ r26 : Bool, v = .bool r26 ∧ -- waveportlaw07.awake
    R (.bool r26) V20) ∧
    (r25 = false →
    R (.bool false) V19)) ∧
    (((r20 : Int) == r23) = false →
    (false = true →
    CallV Try.prog 23 #[] V18 fun v V21 => ∃ r27 : Bool, v = .bool r27 ∧ -- waveportlaw07.awake
    R (.bool r27) V21) ∧
    (false = false →
    R (.bool false) V18))) ∧
    (r24 = false →
    (false = true →
    CallV Try.prog 35 #[r19.val, r22.val] V18 fun v V22 => ∃ r28 : Bool, v = .bool r28 ∧ -- waveportlaw01.Is
    (r28 = true →
    CallV Try.prog 23 #[] V22 fun v V23 => ∃ r29 : Bool, v = .bool r29 ∧ -- waveportlaw07.awake
    R (.bool r29) V23) ∧
    (r28 = false →
    R (.bool false) V22)) ∧
    (false = false →
    (false = true →
    CallV Try.prog 23 #[] V18 fun v V24 => ∃ r30 : Bool, v = .bool r30 ∧ -- waveportlaw07.awake
    R (.bool r30) V24) ∧
    (false = false →
    R (.bool false) V18)))))) :
  CallV Try.prog 6 #[p0.v, .int .u8 p1, .int .i64 p2, p3.val] V R :=
  calls_of_vc (Shp := Shp) hmixed Try.func6 (c := Try.f6.body.getD .skip) (args := [p0.v, .int .u8 p1, .int .i64 p2, p3.val]) (by kernel_rfl)
    (.seq (.reg [⟨7, 3, false⟩, ⟨8, 2, false⟩]) (.seq (.seq (.reg [⟨18, 2, false⟩, ⟨19, 0, false⟩, ⟨20, 0, false⟩]) (.cond (.seq (.reg [⟨21, 10, false⟩, ⟨8, 2, false⟩]) .leaf) .leaf)) (.seq (.reg [⟨22, 2, false⟩, ⟨23, 2, false⟩, ⟨24, 0, false⟩, ⟨25, 0, false⟩, ⟨26, 10, false⟩, ⟨9, 2, false⟩]) (.seq (.reg [⟨28, 2, false⟩, ⟨29, 10, false⟩, ⟨30, 2, false⟩, ⟨31, 10, false⟩, ⟨27, 2, false⟩, ⟨32, 0, false⟩, ⟨33, 0, false⟩, ⟨10, 2, false⟩, ⟨11, 2, false⟩]) (.seq (.reg [⟨35, 2, false⟩, ⟨36, 10, false⟩, ⟨37, 2, false⟩, ⟨38, 10, false⟩, ⟨34, 2, false⟩, ⟨39, 0, false⟩, ⟨40, 0, false⟩, ⟨12, 2, false⟩, ⟨13, 2, false⟩]) (.seq (.seq (.reg [⟨41, 2, false⟩, ⟨42, 2, false⟩, ⟨43, 2, false⟩, ⟨44, 2, false⟩, ⟨45, 10, false⟩, ⟨46, 0, false⟩]) (.cond (.seq (.reg [⟨8, 2, false⟩]) .leaf) .leaf)) (.seq (.draw [(0, ⟨48, 2, false⟩), (2, ⟨7, 4, false⟩), (1, ⟨49, 10, false⟩), (3, ⟨51, 10, false⟩), (4, ⟨52, 10, false⟩), (5, ⟨47, 2, false⟩), (6, ⟨53, 0, false⟩), (7, ⟨54, 0, false⟩), (8, ⟨10, 2, false⟩), (9, ⟨11, 2, false⟩)] [0, 1, 0, 7, 15, 31, 63, 63, 127, 511]) (.seq (.draw [(0, ⟨56, 2, false⟩), (2, ⟨7, 4, false⟩), (1, ⟨57, 10, false⟩), (3, ⟨59, 10, false⟩), (4, ⟨60, 10, false⟩), (5, ⟨55, 2, false⟩), (6, ⟨61, 0, false⟩), (7, ⟨62, 0, false⟩), (8, ⟨12, 2, false⟩), (9, ⟨13, 2, false⟩)] [0, 1, 0, 7, 15, 31, 63, 63, 127, 511]) (.seq (.reg [⟨64, 2, false⟩, ⟨65, 10, false⟩, ⟨66, 10, false⟩, ⟨63, 2, false⟩, ⟨67, 0, false⟩, ⟨68, 0, false⟩, ⟨14, 3, false⟩, ⟨14, 6, false⟩, ⟨15, 2, false⟩]) (.seq (.reg [⟨70, 2, false⟩, ⟨71, 10, false⟩, ⟨72, 10, false⟩, ⟨69, 2, false⟩, ⟨73, 0, false⟩, ⟨74, 0, false⟩, ⟨16, 3, false⟩, ⟨16, 6, false⟩, ⟨17, 2, false⟩]) (.seq (.reg [⟨75, 2, false⟩, ⟨76, 2, false⟩, ⟨77, 2, false⟩, ⟨78, 2, false⟩, ⟨79, 10, false⟩, ⟨80, 2, true⟩, ⟨81, 2, false⟩, ⟨82, 2, false⟩, ⟨83, 0, false⟩, ⟨84, 2, false⟩, ⟨85, 2, true⟩, ⟨14, 4, false⟩, ⟨16, 4, false⟩, ⟨88, 10, false⟩, ⟨89, 2, false⟩, ⟨90, 2, true⟩, ⟨91, 10, false⟩, ⟨92, 2, false⟩, ⟨8, 2, false⟩]) .leaf)))))))))))
    (Eq.mpr (by kernel_rfl) h)

end Go.Proofs.Ytcapadojlaojkaa
