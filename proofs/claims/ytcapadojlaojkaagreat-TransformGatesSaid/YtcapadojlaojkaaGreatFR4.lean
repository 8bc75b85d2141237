/- Part of the proof; it has the parts FR4. -/
import Derived.Test.YtcapadojlaojkaaGreatFR5
set_option maxRecDepth 100000
set_option maxHeartbeats 4000000
namespace Go.Proofs.YtcapadojlaojkaaGreat
open Go Go.Vc Go.Proofs

structure L_ref1_NatGcd_0 where
  t0 : Sl
  t1 : Sl
def ref1_NatGcd_f0  (_c : Unit) (w x : L_ref1_NatGcd_0) : Prop := (E2 (.val (w.t0.v)) (.val (x.t0.v)) ∧ E2 (.val (w.t1.v)) (.val (x.t1.v)) ∧ True) ∧ (True)
def ref1_NatGcd_sk (p0 : Sl) (p1 : Sl) (V : View) (R : Value → View → Prop) (I0 : Unit → L_ref1_NatGcd_0 → View → Prop) (E0 : Unit → L_ref1_NatGcd_0 → View → Prop) (B0 : Unit → L_ref1_NatGcd_0 → View → L_ref1_NatGcd_0 → View → Prop) : Prop :=
    E0 () (L_ref1_NatGcd_0.mk p0 p1) V ∧
    (∀ (x2 : L_ref1_NatGcd_0) (V1 : View), View.le V V1 → I0 () x2 V1 →
      ((decide (((x2.t1.len : Int) : Int) > 0)) = true →
        CallV Tryz.prog 220 #[x2.t0.v, x2.t1.v] V1 fun v V2 => ∃ (r1 : Sl) (r2 : Sl), v = .tuple #[r1.v, r2.v] ∧ -- waveportref01.NatDiv
      B0 () (L_ref1_NatGcd_0.mk x2.t1 r2) V2 x2 V1) ∧
      ((decide (((x2.t1.len : Int) : Int) > 0)) = false →
        R (x2.t0.v) V1))

theorem ref1_NatGcd_v0 (p0 : Sl) (p1 : Sl) (V : View) (R : Value → View → Prop) (I0 : Unit → L_ref1_NatGcd_0 → View → Prop) (J0 : Unit → L_ref1_NatGcd_0 → View → Nat) {X : Prop} (e : ref1_NatGcd_sk p0 p1 V R I0 I0 (fun c w V x U => I0 c w V ∧ J0 c w V < J0 c x U) = X) (h : X) :
  CallV Tryz.prog 219 #[p0.v, p1.v] V R :=
  calls_of_vc (Shp := Shp) hmixed Tryz.func219 (c := Tryz.f219.body.getD .skip) (args := [p0.v, p1.v]) (by kernel_rfl)
    (.seq (.reg [⟨4, 2, false⟩]) (.seq (.block (.loop Unit L_ref1_NatGcd_0 (fun _ => ()) (fun c x => { tm := spT 19 0 [(0, .val (x.t0.v)), (1, .val (x.t1.v))], own := spO 19 0 [] }) I0 J0 (.seq (.seq (.reg [⟨7, 2, false⟩, ⟨8, 0, false⟩, ⟨9, 0, false⟩]) (.cond .leaf .leaf)) (.block (.seq (.reg [⟨11, 2, false⟩, ⟨12, 2, false⟩, ⟨13, 10, false⟩, ⟨10, 2, false⟩, ⟨14, 0, false⟩, ⟨15, 0, false⟩, ⟨5, 2, false⟩, ⟨6, 2, false⟩]) (.reg [⟨16, 2, false⟩, ⟨17, 2, false⟩, ⟨0, 2, false⟩, ⟨1, 2, false⟩])))))) (.seq (.reg [⟨18, 2, false⟩, ⟨4, 2, false⟩]) .leaf)))
    (Eq.mpr (by kernel_rfl) (show ref1_NatGcd_sk p0 p1 V R I0 (fun c w V => ∃ x, ref1_NatGcd_f0  c w x ∧ I0 c x V) (fun c w V y U => ∃ x, ref1_NatGcd_f0  c w x ∧ I0 c x V ∧ J0 c x V < J0 c y U) from by
    have h := Eq.mpr e h; unfold ref1_NatGcd_sk at h ⊢; have Ee0 := fun c w V (h : I0 c w V) => (⟨w, ⟨⟨rfl, rfl, trivial⟩, trivial⟩, h⟩ : ∃ x, ref1_NatGcd_f0  c w x ∧ I0 c x V); have Bb0 := fun c w V y U (h : I0 c w V ∧ J0 c w V < J0 c y U) => (⟨w, ⟨⟨rfl, rfl, trivial⟩, trivial⟩, h⟩ : ∃ x, ref1_NatGcd_f0  c w x ∧ I0 c x V ∧ J0 c x V < J0 c y U); exact ⟨(Ee0 _ _ _ h.1), fun x2 V1 h4 h5 => ⟨fun h3 => (CallV.mono ((h.2 x2 V1 h4 h5).1 h3) (fun _ _ _ ⟨r1, r2, h2, h1⟩ => ⟨r1, r2, h2, (Bb0 _ _ _ _ _ h1)⟩)), fun h3 => ((h.2 x2 V1 h4 h5).2 h3)⟩⟩))

/-- waveport/waveportref01.NatGcd -/
theorem ref1_NatGcd_vc : type_of% (fun p0 p1 V R I0 J0 => ref1_NatGcd_v0 p0 p1 V R I0 J0 (ref1_NatGcd_sk.eq_1 ..)) := fun p0 p1 V R I0 J0 => ref1_NatGcd_v0 p0 p1 V R I0 J0 (ref1_NatGcd_sk.eq_1 ..)

/-- waveport/waveportref01.signed -/
theorem ref1_signed_vc (p0 : Bool) (p1 : Sl) (V : View) (R : Value → View → Prop) 
  (h :
    (p0 = true →
    R ((WhV.mk (decide (((p1.len : Int) : Int) > 0)) p1).val) V) ∧
    (p0 = false →
    R ((WhV.mk false p1).val) V)) :
  CallV Tryz.prog 218 #[.bool p0, p1.v] V R :=
  calls_of_vc (Shp := Shp) hmixed Tryz.func218 (c := Tryz.f218.body.getD .skip) (args := [.bool p0, p1.v]) (by kernel_rfl)
    (.seq (.reg [⟨4, 3, false⟩]) (.seq (.reg [⟨5, 2, false⟩, ⟨6, 2, true⟩, ⟨7, 2, false⟩, ⟨8, 0, false⟩, ⟨9, 0, false⟩, ⟨10, 2, false⟩, ⟨11, 2, false⟩, ⟨12, 0, false⟩, ⟨4, 6, false⟩]) .leaf))
    (Eq.mpr (by kernel_rfl) h)

/-- waveport/waveportref01.IntOf -/
theorem ref1_IntOf_vc (p0 : Int) (V : View) (R : Value → View → Prop) 
  (h :
    ((decide ((p0 : Int) < 0)) = true →
      CallV Tryz.prog 207 #[.int .u64 (IntKind.u64.wrap (IntKind.i64.wrap (0 - p0)))] V fun v V1 => ∃ r1 : Sl, v = r1.v ∧ -- waveportref01.NatOf
      R ((WhV.mk true r1).val) V1) ∧
    ((decide ((p0 : Int) < 0)) = false →
      CallV Tryz.prog 207 #[.int .u64 (IntKind.u64.wrap p0)] V fun v V2 => ∃ r2 : Sl, v = r2.v ∧ -- waveportref01.NatOf
    R ((WhV.mk false r2).val) V2)) :
  CallV Tryz.prog 175 #[.int .i64 p0] V R :=
  calls_of_vc (Shp := Shp) hmixed Tryz.func175 (c := Tryz.f175.body.getD .skip) (args := [.int .i64 p0]) (by kernel_rfl)
    (.seq (.reg [⟨2, 3, false⟩]) (.seq (.seq (.reg [⟨3, 2, false⟩, ⟨4, 0, false⟩]) (.cond (.seq (.reg [⟨5, 2, false⟩, ⟨6, 0, false⟩, ⟨7, 0, false⟩, ⟨8, 10, false⟩, ⟨9, 0, false⟩, ⟨2, 6, false⟩]) .leaf) .leaf)) (.seq (.reg [⟨10, 2, false⟩, ⟨11, 0, false⟩, ⟨12, 10, false⟩, ⟨13, 0, false⟩, ⟨2, 6, false⟩]) .leaf)))
    (Eq.mpr (by kernel_rfl) h)

/-- waveport/waveportref01.IntNeg -/
theorem ref1_IntNeg_vc (p0 : WhV) (V : View) (R : Value → View → Prop) 
  (h :
    CallV Tryz.prog 218 #[.bool (!p0.neg), p0.mag.v] V fun v V1 => ∃ r1 : WhV, v = r1.val ∧ -- waveportref01.signed
    R (r1.val) V1) :
  CallV Tryz.prog 200 #[p0.val] V R :=
  calls_of_vc (Shp := Shp) hmixed Tryz.func200 (c := Tryz.f200.body.getD .skip) (args := [p0.val]) (by kernel_rfl)
    (.seq (.reg [⟨1, 3, false⟩, ⟨2, 3, false⟩]) (.seq (.reg [⟨3, 7, false⟩, ⟨1, 4, false⟩, ⟨5, 0, false⟩, ⟨6, 7, false⟩, ⟨1, 4, false⟩, ⟨8, 10, false⟩, ⟨2, 6, false⟩]) .leaf))
    (Eq.mpr (by kernel_rfl) h)

/-- waveport/waveportref01.IntSub -/
theorem ref1_IntSub_vc (p0 : WhV) (p1 : WhV) (V : View) (R : Value → View → Prop) 
  (h :
    CallV Tryz.prog 200 #[p1.val] V fun v V1 => ∃ r1 : WhV, v = r1.val ∧ -- waveportref01.IntNeg
    CallV Tryz.prog 204 #[p0.val, r1.val] V1 fun v V2 => ∃ r2 : WhV, v = r2.val ∧ -- waveportref01.IntAdd
    R (r2.val) V2) :
  CallV Tryz.prog 202 #[p0.val, p1.val] V R :=
  calls_of_vc (Shp := Shp) hmixed Tryz.func202 (c := Tryz.f202.body.getD .skip) (args := [p0.val, p1.val]) (by kernel_rfl)
    (.seq (.reg [⟨2, 3, false⟩, ⟨3, 3, false⟩, ⟨4, 3, false⟩]) (.seq (.draw [(0, ⟨2, 4, false⟩), (1, ⟨3, 4, false⟩), (2, ⟨7, 10, false⟩), (3, ⟨8, 10, false⟩), (4, ⟨4, 6, false⟩)] [0, 0, 2, 7, 15]) .leaf))
    (Eq.mpr (by kernel_rfl) h)

/-- waveport/waveportref01.IntMul -/
theorem ref1_IntMul_vc (p0 : WhV) (p1 : WhV) (V : View) (R : Value → View → Prop) 
  (h :
    CallV Tryz.prog 205 #[p0.mag.v, p1.mag.v] V fun v V1 => ∃ r1 : Sl, v = r1.v ∧ -- waveportref01.NatMul
    CallV Tryz.prog 218 #[.bool (!(p0.neg == p1.neg)), r1.v] V1 fun v V2 => ∃ r2 : WhV, v = r2.val ∧ -- waveportref01.signed
    R (r2.val) V2) :
  CallV Tryz.prog 203 #[p0.val, p1.val] V R :=
  calls_of_vc (Shp := Shp) hmixed Tryz.func203 (c := Tryz.f203.body.getD .skip) (args := [p0.val, p1.val]) (by kernel_rfl)
    (.seq (.reg [⟨2, 3, false⟩, ⟨3, 3, false⟩, ⟨4, 3, false⟩]) (.seq (.draw [(0, ⟨5, 7, false⟩), (1, ⟨2, 4, false⟩), (2, ⟨7, 7, false⟩), (3, ⟨3, 4, false⟩), (4, ⟨9, 0, false⟩), (5, ⟨10, 7, false⟩), (6, ⟨2, 4, false⟩), (7, ⟨12, 7, false⟩), (8, ⟨3, 4, false⟩), (9, ⟨14, 10, false⟩), (10, ⟨15, 10, false⟩), (11, ⟨4, 6, false⟩)] [0, 1, 0, 4, 15, 0, 32, 0, 128, 480, 1023, 2047]) .leaf))
    (Eq.mpr (by kernel_rfl) h)

/-- waveport/waveportref01.IntAdd -/
theorem ref1_IntAdd_vc (p0 : WhV) (p1 : WhV) (V : View) (R : Value → View → Prop) 
  (h :
    ((p0.neg == p1.neg) = true →
      CallV Tryz.prog 221 #[p0.mag.v, p1.mag.v] V fun v V1 => ∃ r1 : Sl, v = r1.v ∧ -- waveportref01.NatAdd
      CallV Tryz.prog 218 #[.bool p0.neg, r1.v] V1 fun v V2 => ∃ r2 : WhV, v = r2.val ∧ -- waveportref01.signed
      R (r2.val) V2) ∧
    ((p0.neg == p1.neg) = false →
      CallV Tryz.prog 177 #[p0.mag.v, p1.mag.v] V fun v V3 => ∃ r3 : Int, v = .int .i64 r3 ∧ -- waveportref01.NatCmp
    ((decide ((r3 : Int) ≥ 0)) = true →
      CallV Tryz.prog 222 #[p0.mag.v, p1.mag.v] V3 fun v V4 => ∃ r4 : Sl, v = r4.v ∧ -- waveportref01.NatSub
      CallV Tryz.prog 218 #[.bool p0.neg, r4.v] V4 fun v V5 => ∃ r5 : WhV, v = r5.val ∧ -- waveportref01.signed
      R (r5.val) V5) ∧
    ((decide ((r3 : Int) ≥ 0)) = false →
      CallV Tryz.prog 222 #[p1.mag.v, p0.mag.v] V3 fun v V6 => ∃ r6 : Sl, v = r6.v ∧ -- waveportref01.NatSub
    CallV Tryz.prog 218 #[.bool p1.neg, r6.v] V6 fun v V7 => ∃ r7 : WhV, v = r7.val ∧ -- waveportref01.signed
    R (r7.val) V7))) :
  CallV Tryz.prog 204 #[p0.val, p1.val] V R :=
  calls_of_vc (Shp := Shp) hmixed Tryz.func204 (c := Tryz.f204.body.getD .skip) (args := [p0.val, p1.val]) (by kernel_rfl)
    (.seq (.reg [⟨2, 3, false⟩, ⟨3, 3, false⟩, ⟨4, 3, false⟩]) (.seq (.seq (.reg [⟨5, 7, false⟩, ⟨2, 4, false⟩, ⟨7, 7, false⟩, ⟨3, 4, false⟩, ⟨9, 0, false⟩]) (.cond (.seq (.draw [(0, ⟨10, 7, false⟩), (1, ⟨2, 4, false⟩), (2, ⟨12, 7, false⟩), (3, ⟨2, 4, false⟩), (4, ⟨14, 7, false⟩), (5, ⟨3, 4, false⟩), (6, ⟨16, 10, false⟩), (7, ⟨17, 10, false⟩), (8, ⟨4, 6, false⟩)] [0, 1, 0, 4, 0, 16, 60, 127, 255]) .leaf) .leaf)) (.seq (.seq (.reg [⟨18, 7, false⟩, ⟨2, 4, false⟩, ⟨20, 7, false⟩, ⟨3, 4, false⟩, ⟨22, 10, false⟩, ⟨23, 0, false⟩]) (.cond (.seq (.draw [(0, ⟨24, 7, false⟩), (1, ⟨2, 4, false⟩), (2, ⟨26, 7, false⟩), (3, ⟨2, 4, false⟩), (4, ⟨28, 7, false⟩), (5, ⟨3, 4, false⟩), (6, ⟨30, 10, false⟩), (7, ⟨31, 10, false⟩), (8, ⟨4, 6, false⟩)] [0, 1, 0, 4, 0, 16, 60, 127, 255]) .leaf) .leaf)) (.seq (.draw [(0, ⟨32, 7, false⟩), (1, ⟨3, 4, false⟩), (2, ⟨34, 7, false⟩), (3, ⟨3, 4, false⟩), (4, ⟨36, 7, false⟩), (5, ⟨2, 4, false⟩), (6, ⟨38, 10, false⟩), (7, ⟨39, 10, false⟩), (8, ⟨4, 6, false⟩)] [0, 1, 0, 4, 0, 16, 60, 127, 255]) .leaf))))
    (Eq.mpr (by kernel_rfl) h)

/-- waveport/waveportref01.Make -/
theorem ref1_Make_vc (p0 : WhV) (p1 : WhV) (p2 : Sl) (V : View) (R : Value → View → Prop) 
  (h :
    CallV Tryz.prog 219 #[p0.mag.v, p1.mag.v] V fun v V1 => ∃ r1 : Sl, v = r1.v ∧ -- waveportref01.NatGcd
    CallV Tryz.prog 219 #[r1.v, p2.v] V1 fun v V2 => ∃ r2 : Sl, v = r2.v ∧ -- waveportref01.NatGcd
    ((((r2.len : Int) : Int) == 1) = true →
    ((0 : Int) ≤ 0 ∧ (0 : Int) < (r2.len : Nat) ∧ Option.isSome r2.a = true) ∧
    ∃ x1 : Int, View.load V2 (Option.map (fun q => Addr.add q (Int.toNat 0 * 1)) r2.a) = some (.int .u32 x1) ∧
    (((x1 : Int) == 1) = true →
      R ((NumV.mk p0 p1 p2).val) V2) ∧
    (((x1 : Int) == 1) = false →
      CallV Tryz.prog 220 #[p0.mag.v, r2.v] V2 fun v V3 => ∃ (r3 : Sl) (r4 : Sl), v = .tuple #[r3.v, r4.v] ∧ -- waveportref01.NatDiv
    CallV Tryz.prog 220 #[p1.mag.v, r2.v] V3 fun v V4 => ∃ (r5 : Sl) (r6 : Sl), v = .tuple #[r5.v, r6.v] ∧ -- waveportref01.NatDiv
    CallV Tryz.prog 220 #[p2.v, r2.v] V4 fun v V5 => ∃ (r7 : Sl) (r8 : Sl), v = .tuple #[r7.v, r8.v] ∧ -- waveportref01.NatDiv
    CallV Tryz.prog 218 #[.bool p0.neg, r3.v] V5 fun v V6 => ∃ r9 : WhV, v = r9.val ∧ -- waveportref01.signed
    CallV Tryz.prog 218 #[.bool p1.neg, r5.v] V6 fun v V7 => ∃ r10 : WhV, v = r10.val ∧ -- waveportref01.signed
    R ((NumV.mk r9 r10 r7).val) V7)) ∧
    ((((r2.len : Int) : Int) == 1) = false →
    (false = true →
      R ((NumV.mk p0 p1 p2).val) V2) ∧
    (false = false →
      CallV Tryz.prog 220 #[p0.mag.v, r2.v] V2 fun v V8 => ∃ (r11 : Sl) (r12 : Sl), v = .tuple #[r11.v, r12.v] ∧ -- waveportref01.NatDiv
    CallV Tryz.prog 220 #[p1.mag.v, r2.v] V8 fun v V9 => ∃ (r13 : Sl) (r14 : Sl), v = .tuple #[r13.v, r14.v] ∧ -- waveportref01.NatDiv
    CallV Tryz.prog 220 #[p2.v, r2.v] V9 fun v V10 => ∃ (r15 : Sl) (r16 : Sl), v = .tuple #[r15.v, r16.v] ∧ -- waveportref01.NatDiv
    CallV Tryz.prog 218 #[.bool p0.neg, r11.v] V10 fun v V11 => ∃ r17 : WhV, v = r17.val ∧ -- waveportref01.signed
    CallV Tryz.prog 218 #[.bool p1.neg, r13.v] V11 fun v V12 => ∃ r18 : WhV, v = r18.val ∧ -- waveportref01.signed
    R ((NumV.mk r17 r18 r15).val) V12))) :
  CallV Tryz.prog 201 #[p0.val, p1.val, p2.v] V R :=
  calls_of_vc (Shp := Shp) hmixed Tryz.func201 (c := Tryz.f201.body.getD .skip) (args := [p0.val, p1.val, p2.v]) (by kernel_rfl)
    (.seq (.reg [⟨3, 3, false⟩, ⟨4, 3, false⟩, ⟨6, 3, false⟩]) (.seq (.reg [⟨14, 7, false⟩, ⟨3, 4, false⟩, ⟨16, 7, false⟩, ⟨4, 4, false⟩, ⟨18, 10, false⟩, ⟨19, 2, false⟩, ⟨20, 10, false⟩, ⟨7, 2, false⟩]) (.seq (.seq (.reg [⟨21, 2, false⟩, ⟨22, 0, false⟩, ⟨23, 0, false⟩, ⟨24, 2, true⟩, ⟨25, 2, false⟩, ⟨26, 7, false⟩, ⟨27, 5, false⟩, ⟨28, 0, false⟩, ⟨29, 2, false⟩]) (.cond (.seq (.reg [⟨3, 4, false⟩, ⟨4, 4, false⟩, ⟨32, 2, false⟩, ⟨33, 0, false⟩, ⟨6, 6, false⟩]) .leaf) .leaf)) (.seq (.reg [⟨35, 7, false⟩, ⟨3, 4, false⟩, ⟨37, 2, false⟩, ⟨38, 10, false⟩, ⟨34, 2, false⟩, ⟨39, 0, false⟩, ⟨40, 0, false⟩, ⟨8, 2, false⟩, ⟨9, 2, false⟩]) (.seq (.reg [⟨42, 7, false⟩, ⟨4, 4, false⟩, ⟨44, 2, false⟩, ⟨45, 10, false⟩, ⟨41, 2, false⟩, ⟨46, 0, false⟩, ⟨47, 0, false⟩, ⟨10, 2, false⟩, ⟨11, 2, false⟩]) (.seq (.reg [⟨49, 2, false⟩, ⟨50, 2, false⟩, ⟨51, 10, false⟩, ⟨48, 2, false⟩, ⟨52, 0, false⟩, ⟨53, 0, false⟩, ⟨12, 2, false⟩, ⟨13, 2, false⟩]) (.seq (.draw [(0, ⟨54, 7, false⟩), (1, ⟨3, 4, false⟩), (2, ⟨56, 2, false⟩), (4, ⟨58, 7, false⟩), (5, ⟨4, 4, false⟩), (6, ⟨60, 2, false⟩), (8, ⟨62, 2, false⟩), (3, ⟨57, 10, false⟩), (7, ⟨61, 10, false⟩), (9, ⟨63, 0, false⟩), (10, ⟨6, 6, false⟩)] [0, 1, 0, 7, 0, 16, 0, 127, 0, 511, 1023]) .leaf)))))))
    (Eq.mpr (by kernel_rfl) h)

/-- waveport/waveportref01.Whole -/
theorem ref1_Whole_vc (p0 : Int) (V : View) (R : Value → View → Prop) 
  (h :
    CallV Tryz.prog 175 #[.int .i64 p0] V fun v V1 => ∃ r1 : WhV, v = r1.val ∧ -- waveportref01.IntOf
    ∀ (b1 : Nat) (V2 : View), View.le V1 V2 → View.Fin V2 → V2 b1 = some #[.int .u32 1] →
    R ((NumV.mk r1 (WhV.mk false (Sl.mk none 0 0)) (Sl.mk (some (Addr.mk b1 0 none)) 1 1)).val) V2) :
  CallV Tryz.prog 123 #[.int .i64 p0] V R :=
  calls_of_vc (Shp := Shp) hmixed Tryz.func123 (c := Tryz.f123.body.getD .skip) (args := [.int .i64 p0]) (by kernel_rfl)
    (.seq (.reg [⟨2, 3, false⟩]) (.seq (.reg [⟨3, 2, false⟩, ⟨4, 10, false⟩, ⟨5, 0, false⟩, ⟨6, 11, false⟩, ⟨7, 0, false⟩, ⟨2, 6, false⟩]) .leaf))
    (Eq.mpr (by kernel_rfl) h)

/-- waveport/waveportref01.New -/
theorem ref1_New_vc (p0 : Int) (p1 : Int) (p2 : Int) (V : View) (R : Value → View → Prop) 
  (h :
    (((p2 : Int) == 0) = true →
      CallV Tryz.prog 123 #[.int .i64 0] V fun v V1 => ∃ r1 : NumV, v = r1.val ∧ -- waveportref01.Whole
      R (.tuple #[r1.val, .int .i64 3]) V1) ∧
    (((p2 : Int) == 0) = false →
      CallV Tryz.prog 175 #[.int .i64 p2] V fun v V2 => ∃ r2 : WhV, v = r2.val ∧ -- waveportref01.IntOf
    CallV Tryz.prog 175 #[.int .i64 p0] V2 fun v V3 => ∃ r3 : WhV, v = r3.val ∧ -- waveportref01.IntOf
    CallV Tryz.prog 175 #[.int .i64 p1] V3 fun v V4 => ∃ r4 : WhV, v = r4.val ∧ -- waveportref01.IntOf
    (r2.neg = true →
      CallV Tryz.prog 200 #[r3.val] V4 fun v V5 => ∃ r5 : WhV, v = r5.val ∧ -- waveportref01.IntNeg
      CallV Tryz.prog 200 #[r4.val] V5 fun v V6 => ∃ r6 : WhV, v = r6.val ∧ -- waveportref01.IntNeg
      CallV Tryz.prog 201 #[r5.val, r6.val, r2.mag.v] V6 fun v V7 => ∃ r7 : NumV, v = r7.val ∧ -- waveportref01.Make
    R (.tuple #[r7.val, .int .i64 0]) V7) ∧
    (r2.neg = false →
      CallV Tryz.prog 201 #[r3.val, r4.val, r2.mag.v] V4 fun v V8 => ∃ r8 : NumV, v = r8.val ∧ -- waveportref01.Make
    R (.tuple #[r8.val, .int .i64 0]) V8))) :
  CallV Tryz.prog 168 #[.int .i64 p0, .int .i64 p1, .int .i64 p2] V R :=
  calls_of_vc (Shp := Shp) hmixed Tryz.func168 (c := Tryz.f168.body.getD .skip) (args := [.int .i64 p0, .int .i64 p1, .int .i64 p2]) (by kernel_rfl)
    (.seq (.reg [⟨6, 3, false⟩, ⟨7, 2, false⟩]) (.seq (.seq (.reg [⟨11, 2, false⟩, ⟨12, 0, false⟩]) (.cond (.seq (.reg [⟨13, 10, false⟩, ⟨6, 6, false⟩, ⟨7, 2, false⟩]) .leaf) .leaf)) (.seq (.reg [⟨14, 2, false⟩, ⟨15, 10, false⟩, ⟨8, 3, false⟩, ⟨8, 6, false⟩]) (.seq (.reg [⟨16, 2, false⟩, ⟨17, 10, false⟩, ⟨18, 2, false⟩, ⟨19, 10, false⟩, ⟨9, 3, false⟩, ⟨10, 3, false⟩, ⟨9, 6, false⟩, ⟨10, 6, false⟩]) (.seq (.seq (.reg [⟨20, 7, false⟩, ⟨8, 4, false⟩]) (.cond (.draw [(0, ⟨9, 4, false⟩), (2, ⟨10, 4, false⟩), (1, ⟨23, 10, false⟩), (3, ⟨25, 10, false⟩), (4, ⟨9, 6, false⟩), (5, ⟨10, 6, false⟩)] [0, 1, 0, 7, 15, 31]) .leaf)) (.seq (.reg [⟨9, 4, false⟩, ⟨10, 4, false⟩, ⟨28, 7, false⟩, ⟨8, 4, false⟩, ⟨30, 10, false⟩, ⟨6, 6, false⟩, ⟨7, 2, false⟩]) .leaf))))))
    (Eq.mpr (by kernel_rfl) h)

/-- waveport/waveportref01.Of -/
theorem ref1_Of_vc (p0 : RatV) (V : View) (R : Value → View → Prop) 
  (h :
    (((p0.den : Int) == 0) = true →
      CallV Tryz.prog 168 #[.int .i64 p0.re, .int .i64 p0.im, .int .i64 1] V fun v V1 => ∃ (r1 : NumV) (r2 : Int), v = .tuple #[r1.val, .int .i64 r2] ∧ -- waveportref01.New
    R (r1.val) V1) ∧
    (((p0.den : Int) == 0) = false →
      CallV Tryz.prog 168 #[.int .i64 p0.re, .int .i64 p0.im, .int .i64 p0.den] V fun v V2 => ∃ (r3 : NumV) (r4 : Int), v = .tuple #[r3.val, .int .i64 r4] ∧ -- waveportref01.New
    R (r3.val) V2)) :
  CallV Tryz.prog 106 #[p0.val] V R :=
  calls_of_vc (Shp := Shp) hmixed Tryz.func106 (c := Tryz.f106.body.getD .skip) (args := [p0.val]) (by kernel_rfl)
    (.seq (.reg [⟨1, 3, false⟩, ⟨2, 3, false⟩]) (.seq (.seq (.reg [⟨5, 7, false⟩, ⟨1, 4, false⟩, ⟨7, 0, false⟩]) (.cond (.reg [⟨8, 7, false⟩, ⟨1, 6, false⟩]) .leaf)) (.seq (.reg [⟨10, 7, false⟩, ⟨1, 4, false⟩, ⟨12, 7, false⟩, ⟨1, 4, false⟩, ⟨14, 7, false⟩, ⟨1, 4, false⟩, ⟨16, 10, false⟩, ⟨9, 2, false⟩, ⟨17, 0, false⟩, ⟨18, 0, false⟩, ⟨3, 3, false⟩, ⟨3, 6, false⟩, ⟨4, 2, false⟩]) (.seq (.reg [⟨3, 4, false⟩, ⟨2, 6, false⟩]) .leaf))))
    (Eq.mpr (by kernel_rfl) h)

/-- waveport/waveportref01.Add -/
theorem ref1_Add_vc (p0 : NumV) (p1 : NumV) (V : View) (R : Value → View → Prop) 
  (h :
    CallV Tryz.prog 203 #[p0.re.val, (WhV.mk false p1.under).val] V fun v V1 => ∃ r1 : WhV, v = r1.val ∧ -- waveportref01.IntMul
    CallV Tryz.prog 203 #[p1.re.val, (WhV.mk false p0.under).val] V1 fun v V2 => ∃ r2 : WhV, v = r2.val ∧ -- waveportref01.IntMul
    CallV Tryz.prog 204 #[r1.val, r2.val] V2 fun v V3 => ∃ r3 : WhV, v = r3.val ∧ -- waveportref01.IntAdd
    CallV Tryz.prog 203 #[p0.im.val, (WhV.mk false p1.under).val] V3 fun v V4 => ∃ r4 : WhV, v = r4.val ∧ -- waveportref01.IntMul
    CallV Tryz.prog 203 #[p1.im.val, (WhV.mk false p0.under).val] V4 fun v V5 => ∃ r5 : WhV, v = r5.val ∧ -- waveportref01.IntMul
    CallV Tryz.prog 204 #[r4.val, r5.val] V5 fun v V6 => ∃ r6 : WhV, v = r6.val ∧ -- waveportref01.IntAdd
    CallV Tryz.prog 205 #[p0.under.v, p1.under.v] V6 fun v V7 => ∃ r7 : Sl, v = r7.v ∧ -- waveportref01.NatMul
    CallV Tryz.prog 201 #[r3.val, r6.val, r7.v] V7 fun v V8 => ∃ r8 : NumV, v = r8.val ∧ -- waveportref01.Make
    R (r8.val) V8) :
  CallV Tryz.prog 170 #[p0.val, p1.val] V R :=
  calls_of_vc (Shp := Shp) hmixed Tryz.func170 (c := Tryz.f170.body.getD .skip) (args := [p0.val, p1.val]) (by kernel_rfl)
    (.seq (.reg [⟨2, 3, false⟩, ⟨3, 3, false⟩, ⟨4, 3, false⟩]) (.seq (.draw [(0, ⟨7, 7, false⟩), (1, ⟨2, 4, false⟩), (2, ⟨9, 0, false⟩), (3, ⟨10, 7, false⟩), (4, ⟨3, 4, false⟩), (5, ⟨12, 0, false⟩), (6, ⟨5, 3, false⟩), (7, ⟨6, 3, false⟩), (8, ⟨5, 6, false⟩), (9, ⟨6, 6, false⟩)] [0, 1, 3, 0, 8, 24, 0, 0, 199, 511]) (.seq (.draw [(0, ⟨13, 7, false⟩), (1, ⟨2, 4, false⟩), (2, ⟨6, 4, false⟩), (4, ⟨17, 7, false⟩), (5, ⟨3, 4, false⟩), (6, ⟨5, 4, false⟩), (9, ⟨22, 7, false⟩), (10, ⟨2, 4, false⟩), (11, ⟨6, 4, false⟩), (13, ⟨26, 7, false⟩), (14, ⟨3, 4, false⟩), (15, ⟨5, 4, false⟩), (18, ⟨31, 7, false⟩), (19, ⟨2, 4, false⟩), (20, ⟨33, 7, false⟩), (21, ⟨3, 4, false⟩), (3, ⟨16, 10, false⟩), (7, ⟨20, 10, false⟩), (8, ⟨21, 10, false⟩), (12, ⟨25, 10, false⟩), (16, ⟨29, 10, false⟩), (17, ⟨30, 10, false⟩), (22, ⟨35, 10, false⟩), (23, ⟨36, 10, false⟩), (24, ⟨4, 6, false⟩)] [0, 1, 0, 7, 0, 16, 0, 127, 255, 0, 512, 0, 4095, 0, 8192, 0, 65535, 131071, 0, 262144, 0, 1048576, 4194303, 8388607, 16777215]) .leaf)))
    (Eq.mpr (by kernel_rfl) h)

/-- waveport/waveportref01.Mul -/
theorem ref1_Mul_vc (p0 : NumV) (p1 : NumV) (V : View) (R : Value → View → Prop) 
  (h :
    CallV Tryz.prog 203 #[p0.re.val, p1.re.val] V fun v V1 => ∃ r1 : WhV, v = r1.val ∧ -- waveportref01.IntMul
    CallV Tryz.prog 203 #[p0.im.val, p1.im.val] V1 fun v V2 => ∃ r2 : WhV, v = r2.val ∧ -- waveportref01.IntMul
    CallV Tryz.prog 202 #[r1.val, r2.val] V2 fun v V3 => ∃ r3 : WhV, v = r3.val ∧ -- waveportref01.IntSub
    CallV Tryz.prog 203 #[p0.re.val, p1.im.val] V3 fun v V4 => ∃ r4 : WhV, v = r4.val ∧ -- waveportref01.IntMul
    CallV Tryz.prog 203 #[p0.im.val, p1.re.val] V4 fun v V5 => ∃ r5 : WhV, v = r5.val ∧ -- waveportref01.IntMul
    CallV Tryz.prog 204 #[r4.val, r5.val] V5 fun v V6 => ∃ r6 : WhV, v = r6.val ∧ -- waveportref01.IntAdd
    CallV Tryz.prog 205 #[p0.under.v, p1.under.v] V6 fun v V7 => ∃ r7 : Sl, v = r7.v ∧ -- waveportref01.NatMul
    CallV Tryz.prog 201 #[r3.val, r6.val, r7.v] V7 fun v V8 => ∃ r8 : NumV, v = r8.val ∧ -- waveportref01.Make
    R (r8.val) V8) :
  CallV Tryz.prog 169 #[p0.val, p1.val] V R :=
  calls_of_vc (Shp := Shp) hmixed Tryz.func169 (c := Tryz.f169.body.getD .skip) (args := [p0.val, p1.val]) (by kernel_rfl)
    (.seq (.reg [⟨2, 3, false⟩, ⟨3, 3, false⟩, ⟨4, 3, false⟩]) (.seq (.draw [(0, ⟨5, 7, false⟩), (1, ⟨2, 4, false⟩), (2, ⟨7, 7, false⟩), (3, ⟨3, 4, false⟩), (5, ⟨10, 7, false⟩), (6, ⟨2, 4, false⟩), (7, ⟨12, 7, false⟩), (8, ⟨3, 4, false⟩), (11, ⟨16, 7, false⟩), (12, ⟨2, 4, false⟩), (13, ⟨18, 7, false⟩), (14, ⟨3, 4, false⟩), (16, ⟨21, 7, false⟩), (17, ⟨2, 4, false⟩), (18, ⟨23, 7, false⟩), (19, ⟨3, 4, false⟩), (22, ⟨27, 7, false⟩), (23, ⟨2, 4, false⟩), (24, ⟨29, 7, false⟩), (25, ⟨3, 4, false⟩), (4, ⟨9, 10, false⟩), (9, ⟨14, 10, false⟩), (10, ⟨15, 10, false⟩), (15, ⟨20, 10, false⟩), (20, ⟨25, 10, false⟩), (21, ⟨26, 10, false⟩), (26, ⟨31, 10, false⟩), (27, ⟨32, 10, false⟩), (28, ⟨4, 6, false⟩)] [0, 1, 0, 4, 15, 0, 32, 0, 128, 511, 1023, 0, 2048, 0, 8192, 32767, 0, 65536, 0, 262144, 1048575, 2097151, 0, 4194304, 0, 16777216, 67108863, 134217727, 268435455]) .leaf))
    (Eq.mpr (by kernel_rfl) h)

/-- waveport/waveportref01.Neg -/
theorem ref1_Neg_vc (p0 : NumV) (V : View) (R : Value → View → Prop) 
  (h :
    CallV Tryz.prog 200 #[p0.re.val] V fun v V1 => ∃ r1 : WhV, v = r1.val ∧ -- waveportref01.IntNeg
    CallV Tryz.prog 200 #[p0.im.val] V1 fun v V2 => ∃ r2 : WhV, v = r2.val ∧ -- waveportref01.IntNeg
    R ((NumV.mk r1 r2 p0.under).val) V2) :
  CallV Tryz.prog 206 #[p0.val] V R :=
  calls_of_vc (Shp := Shp) hmixed Tryz.func206 (c := Tryz.f206.body.getD .skip) (args := [p0.val]) (by kernel_rfl)
    (.seq (.reg [⟨1, 3, false⟩, ⟨2, 3, false⟩]) (.seq (.draw [(0, ⟨3, 7, false⟩), (1, ⟨1, 4, false⟩), (3, ⟨6, 7, false⟩), (4, ⟨1, 4, false⟩), (6, ⟨9, 7, false⟩), (7, ⟨1, 4, false⟩), (2, ⟨5, 10, false⟩), (5, ⟨8, 10, false⟩), (8, ⟨11, 0, false⟩), (9, ⟨2, 6, false⟩)] [0, 1, 3, 0, 8, 31, 0, 64, 255, 511]) .leaf))
    (Eq.mpr (by kernel_rfl) h)

/-- waveport/waveportref01.Sub -/
theorem ref1_Sub_vc (p0 : NumV) (p1 : NumV) (V : View) (R : Value → View → Prop) 
  (h :
    CallV Tryz.prog 206 #[p1.val] V fun v V1 => ∃ r1 : NumV, v = r1.val ∧ -- waveportref01.Neg
    CallV Tryz.prog 170 #[p0.val, r1.val] V1 fun v V2 => ∃ r2 : NumV, v = r2.val ∧ -- waveportref01.Add
    R (r2.val) V2) :
  CallV Tryz.prog 174 #[p0.val, p1.val] V R :=
  calls_of_vc (Shp := Shp) hmixed Tryz.func174 (c := Tryz.f174.body.getD .skip) (args := [p0.val, p1.val]) (by kernel_rfl)
    (.seq (.reg [⟨2, 3, false⟩, ⟨3, 3, false⟩, ⟨4, 3, false⟩]) (.seq (.draw [(0, ⟨2, 4, false⟩), (1, ⟨3, 4, false⟩), (2, ⟨7, 10, false⟩), (3, ⟨8, 10, false⟩), (4, ⟨4, 6, false⟩)] [0, 0, 2, 7, 15]) .leaf))
    (Eq.mpr (by kernel_rfl) h)

/-- waveport/waveportref01.Conj -/
theorem ref1_Conj_vc (p0 : NumV) (V : View) (R : Value → View → Prop) 
  (h :
    CallV Tryz.prog 200 #[p0.im.val] V fun v V1 => ∃ r1 : WhV, v = r1.val ∧ -- waveportref01.IntNeg
    R ((NumV.mk p0.re r1 p0.under).val) V1) :
  CallV Tryz.prog 171 #[p0.val] V R :=
  calls_of_vc (Shp := Shp) hmixed Tryz.func171 (c := Tryz.f171.body.getD .skip) (args := [p0.val]) (by kernel_rfl)
    (.seq (.reg [⟨1, 3, false⟩, ⟨2, 3, false⟩]) (.seq (.draw [(0, ⟨3, 7, false⟩), (1, ⟨1, 4, false⟩), (2, ⟨5, 7, false⟩), (3, ⟨1, 4, false⟩), (5, ⟨8, 7, false⟩), (6, ⟨1, 4, false⟩), (4, ⟨7, 10, false⟩), (7, ⟨10, 0, false⟩), (8, ⟨2, 6, false⟩)] [0, 1, 0, 4, 12, 0, 32, 127, 255]) .leaf))
    (Eq.mpr (by kernel_rfl) h)

end Go.Proofs.YtcapadojlaojkaaGreat
