/- Part of the proof; it has the parts GSl1. -/
import Derived.Test.YtefkpimcffofaaaGSc4
set_option maxRecDepth 100000
set_option maxHeartbeats 4000000
namespace Go.Proofs.Ytefkpimcffofaaa
open Go Go.Vc Go.Proofs
open Go.IntKind (i8 i16 i32 i64 u8 u16 u32 u64)

structure L_waveportlaw08_ticks_0 where
 t4l : Nat
 t4c : Nat
 t5l : Nat
 t5c : Nat
 t10 : Int
 o4 : List Value
 o5 : List Value
def waveportlaw08_ticks_f0 (p0 : Sl) (_c : Unit) (w x : L_waveportlaw08_ticks_0) : Prop := (E2 (.lst 4 w.t4l w.t4c) (.lst 4 x.t4l x.t4c) ∧ E2 (.lst 5 w.t5l w.t5c) (.lst 5 x.t5l x.t5c) ∧ Q1 (.val (p0.v)) ∧ Q1 (.val (.int .i64 (p0.len : Int))) ∧ E2 (.val (.int .i64 w.t10)) (.val (.int .i64 x.t10)) ∧ True) ∧ (O2 ⟨67, .list w.o4⟩ ⟨67, .list x.o4⟩ ∧ O2 ⟨112, .list w.o5⟩ ⟨112, .list x.o5⟩ ∧ True)
def waveportlaw08_ticks_sk (p0 : Sl) (V : View) (R : Value → View → Prop) (I0 : Unit → L_waveportlaw08_ticks_0 → View → Prop) (E0 : Unit → L_waveportlaw08_ticks_0 → View → Prop) (B0 : Unit → L_waveportlaw08_ticks_0 → View → L_waveportlaw08_ticks_0 → View → Prop) : Prop :=
 E0 () (L_waveportlaw08_ticks_0.mk 0 0 0 0 0 ([] : List Value) ([] : List Value)) V ∧
 (∀ (x2 : L_waveportlaw08_ticks_0) (V1 : View), View.le V V1 → I0 () x2 V1 →
 ((decide ((x2.t10 : Int) < (p0.len : Int))) = true →
 ((0 : Int) ≤ x2.t10 ∧ (x2.t10 : Int) < (p0.len : Nat) ∧ Option.isSome p0.a = true) ∧
 ∃ x3 : LTickV, View.has V1 (Option.map (fun q => Addr.add q (Int.toNat x2.t10 * 6)) p0.a) (x3.val).cells.toList ∧ Option.isSome (Option.map (fun q => Addr.add q (Int.toNat x2.t10 * 6)) p0.a) = true ∧
 CallV Try.prog 28 #[x3.time.val] V1 fun v V2 => ∃ r1 : NumV, v = r1.val ∧
 CallV Try.prog 28 #[x3.place.val] V2 fun v V3 => ∃ r2 : NumV, v = r2.val ∧
 ∀ (b1 : Nat) (V4 : View), View.le V3 V4 → View.Fin V4 → V4 b1 = some #[.bool r1.re.neg, r1.re.mag.v, .bool r1.im.neg, r1.im.mag.v, r1.under.v, .bool r2.re.neg, r2.re.mag.v, .bool r2.im.neg, r2.im.mag.v, r2.under.v] →
 ∃ (l1 : List Value) (l2 : List Value), LstOk 10 x2.t4l x2.t4c x2.o4 l1 ∧ View.has V4 (some (Addr.mk b1 0 none)) l2 ∧ List.length l2 = 1 * 10 ∧ (∀ v ∈ l2, Value.oneCell' v = true) ∧ x2.t4l + 1 ≤ maxLen ∧ (x2.t4l + 1) * 176 ≤ 140737488355328 ∧
 ∀ (c1 : Nat) (l3 : List Value), LstOk 10 (x2.t4l + 1) c1 l3 (l1 ++ l2) →
 CallV Try.prog 59 #[x3.time.val] V4 fun v V5 => ∃ r3 : NumV, v = r3.val ∧
 CallV Try.prog 59 #[x3.place.val] V5 fun v V6 => ∃ r4 : NumV, v = r4.val ∧
 ∀ (b2 : Nat) (V7 : View), View.le V6 V7 → View.Fin V7 → V7 b2 = some #[.bool r3.re.neg, r3.re.mag.v, .bool r3.im.neg, r3.im.mag.v, r3.under.v, .bool r4.re.neg, r4.re.mag.v, .bool r4.im.neg, r4.im.mag.v, r4.under.v] →
 ∃ (l4 : List Value) (l5 : List Value), LstOk 10 x2.t5l x2.t5c x2.o5 l4 ∧ View.has V7 (some (Addr.mk b2 0 none)) l5 ∧ List.length l5 = 1 * 10 ∧ (∀ v ∈ l5, Value.oneCell' v = true) ∧ x2.t5l + 1 ≤ maxLen ∧ (x2.t5l + 1) * 176 ≤ 140737488355328 ∧
 ∀ (c2 : Nat) (l6 : List Value), LstOk 10 (x2.t5l + 1) c2 l6 (l4 ++ l5) →
 B0 () (L_waveportlaw08_ticks_0.mk (x2.t4l + 1) c1 (x2.t5l + 1) c2 (i64.wrap (x2.t10 + 1)) l3 l6) V7 x2 V1) ∧
 ((decide ((x2.t10 : Int) < (p0.len : Int))) = false →
 ∀ (b3 : Nat) (V8 : View), View.le V1 V8 → (x2.o4 ≠ [] → V8 b3 = some (List.toArray x2.o4)) →
 ∀ (b4 : Nat) (V9 : View), View.le V8 V9 → (x2.o5 ≠ [] → V9 b4 = some (List.toArray x2.o5)) →
 R (.tuple #[(Sl.mk (lstA b3 x2.t4c) x2.t4l x2.t4c).v, (Sl.mk (lstA b4 x2.t5c) x2.t5l x2.t5c).v]) V9))

theorem waveportlaw08_ticks_v0 (p0 : Sl) (V : View) (R : Value → View → Prop) (I0 : Unit → L_waveportlaw08_ticks_0 → View → Prop) (J0 : Unit → L_waveportlaw08_ticks_0 → View → Nat) {X : Prop} (e : waveportlaw08_ticks_sk p0 V R I0 I0 (fun c w V x U => I0 c w V ∧ J0 c w V < J0 c x U) = X) (h : X) :
 CallV Try.prog 26 #[p0.v] V R :=
 calls_of_vc (Shp := Shp) hmixed Try.func26 (c := Try.f26.body.getD .skip) (args := [p0.v]) (by kernel_rfl)
 (.seq (.reg [A 2 2, A 3 2]) (.seq (.reg [A 4 2]) (.seq (.adopt 4 4 67 (.reg [A 5 2])) (.seq (.seq (.adopt 5 5 112 (.reg [A 8 2, A 9 0, A 10 2])) (.block (.loop Unit L_waveportlaw08_ticks_0 (fun _ => ()) (fun c x => { tm := spT 37 0 [(4, .lst 4 x.t4l x.t4c), (5, .lst 5 x.t5l x.t5c), (8, .val (p0.v)), (9, .val (.int .i64 (p0.len : Int))), (10, .val (.int .i64 x.t10))], own := spO 37 0 [(4, ⟨67, .list x.o4⟩), (5, ⟨112, .list x.o5⟩)] }) I0 J0 (.seq (.reg [A 11 0]) (.seq (.cond .leaf .leaf) (.seq (.block (.seq (.reg [A 12 7, A 13 5, A 7 3, A 7 6]) (.seq (.draw [(0, A 14 2), (1, A 15 7), (2, A 7 4), (4, A 18 7), (5, A 7 4), (3, A 17 10), (6, A 20 10), (7, A 21 0), (8, A 22 11), (9, A 4 13), (10, A 4 2)] [0, 0, 2, 6, 0, 16, 62, 126, 254, 511, 1023]) (.draw [(0, A 24 2), (1, A 25 7), (2, A 7 4), (4, A 28 7), (5, A 7 4), (3, A 27 10), (6, A 30 10), (7, A 31 0), (8, A 32 11), (9, A 5 13), (10, A 5 2)] [0, 0, 2, 6, 0, 16, 62, 126, 254, 511, 1023])))) (.reg [A 34 0, A 10 2]))))))) (.seq (.reg [A 35 2, A 36 2, A 2 2, A 3 2]) (.pub 4 (.pub 5 .leaf)))))))
 (Eq.mpr (by kernel_rfl) (show waveportlaw08_ticks_sk p0 V R I0 (fun c w V => ∃ x, waveportlaw08_ticks_f0 p0 c w x ∧ I0 c x V) (fun c w V y U => ∃ x, waveportlaw08_ticks_f0 p0 c w x ∧ I0 c x V ∧ J0 c x V < J0 c y U) from by
 have h := Eq.mpr e h; unfold waveportlaw08_ticks_sk at h ⊢; have Ee0 := fun c w V (h : I0 c w V) => (⟨w, ⟨⟨rfl, rfl, rfl, rfl, rfl, trivial⟩, ⟨rfl, rfl, trivial⟩⟩, h⟩ : ∃ x, waveportlaw08_ticks_f0 p0 c w x ∧ I0 c x V); have Bb0 := fun c w V y U (h : I0 c w V ∧ J0 c w V < J0 c y U) => (⟨w, ⟨⟨rfl, rfl, rfl, rfl, rfl, trivial⟩, ⟨rfl, rfl, trivial⟩⟩, h⟩ : ∃ x, waveportlaw08_ticks_f0 p0 c w x ∧ I0 c x V ∧ J0 c x V < J0 c y U); exact ⟨(Ee0 _ _ _ h.1), fun x2 V1 h39 h40 => ⟨fun h38 => ⟨((h.2 x2 V1 h39 h40).1 h38).1, (match ((h.2 x2 V1 h39 h40).1 h38).2 with | ⟨x3, h32, h33, h31⟩ => ⟨x3, h32, h33, (CallV.mono h31 (fun _ _ _ ⟨r1, h30, h29⟩ => ⟨r1, h30, (CallV.mono h29 (fun _ _ _ ⟨r2, h28, h27⟩ => ⟨r2, h28, (fun b1 V4 h24 h25 h26 => (match (h27 b1 V4 h24 h25 h26) with | ⟨l1, l2, h18, h19, h20, h21, h22, h23, h17⟩ => ⟨l1, l2, h18, h19, h20, h21, h22, h23, (fun c1 l3 h16 => (CallV.mono (h17 c1 l3 h16) (fun _ _ _ ⟨r3, h15, h14⟩ => ⟨r3, h15, (CallV.mono h14 (fun _ _ _ ⟨r4, h13, h12⟩ => ⟨r4, h13, (fun b2 V7 h9 h10 h11 => (match (h12 b2 V7 h9 h10 h11) with | ⟨l4, l5, h3, h4, h5, h6, h7, h8, h2⟩ => ⟨l4, l5, h3, h4, h5, h6, h7, h8, (fun c2 l6 h1 => (Bb0 _ _ _ _ _ (h2 c2 l6 h1)))⟩))⟩))⟩)))⟩))⟩))⟩))⟩)⟩, fun h38 => (fun b3 V8 h36 h37 => (fun b4 V9 h34 h35 => ((((h.2 x2 V1 h39 h40).2 h38) b3 V8 h36 h37) b4 V9 h34 h35)))⟩⟩))

theorem waveportlaw08_ticks_vc : type_of% (fun p0 V R I0 J0 => waveportlaw08_ticks_v0 p0 V R I0 J0 (waveportlaw08_ticks_sk.eq_1 ..)) := fun p0 V R I0 J0 => waveportlaw08_ticks_v0 p0 V R I0 J0 (waveportlaw08_ticks_sk.eq_1 ..)

theorem waveportlaw08_awake_vc  (V : View) (R : Value → View → Prop) 
 (h :
 CallV Try.prog 13 #[.int .i64 2] V fun v V1 => ∃ r1 : NumV, v = r1.val ∧
 CallV Try.prog 13 #[.int .i64 1] V1 fun v V2 => ∃ r2 : NumV, v = r2.val ∧
 CallV Try.prog 13 #[.int .i64 3] V2 fun v V3 => ∃ r3 : NumV, v = r3.val ∧
 ∀ (b1 : Nat) (V4 : View), View.le V3 V4 → View.Fin V4 → V4 b1 = some #[.int .i64 0, .int .i64 0, .bool false, .slice none 0 0, .bool false, .slice none 0 0, .slice none 0 0, .bool false, .slice none 0 0, .bool false, .slice none 0 0, .slice none 0 0, .bool false, .slice none 0 0, .bool false, .slice none 0 0, .slice none 0 0, .int .i64 1, .int .i64 0, .bool r1.re.neg, r1.re.mag.v, .bool r1.im.neg, r1.im.mag.v, r1.under.v, .bool false, .slice none 0 0, .bool false, .slice none 0 0, .slice none 0 0, .bool false, .slice none 0 0, .bool false, .slice none 0 0, .slice none 0 0, .int .i64 0, .int .i64 1, .bool r2.re.neg, r2.re.mag.v, .bool r2.im.neg, r2.im.mag.v, r2.under.v, .bool r3.re.neg, r3.re.mag.v, .bool r3.im.neg, r3.im.mag.v, r3.under.v, .bool false, .slice none 0 0, .bool false, .slice none 0 0, .slice none 0 0] →
 CallV Try.prog 56 #[(Sl.mk (some (Addr.mk b1 0 none)) 3 3).v] V4 fun v V5 => ∃ (r4 : FrameV) (r5 : Int), v = .tuple #[r4.val, .int .i64 r5] ∧
 CallV Try.prog 57 #[r4.val] V5 fun v V6 => ∃ (r6 : NumV) (r7 : Int), v = .tuple #[r6.val, .int .i64 r7] ∧
 CallV Try.prog 13 #[.int .i64 10] V6 fun v V7 => ∃ r8 : NumV, v = r8.val ∧
 CallV Try.prog 13 #[.int .i64 5] V7 fun v V8 => ∃ r9 : NumV, v = r9.val ∧
 ∀ (b2 : Nat) (V9 : View), View.le V8 V9 → View.Fin V9 → V9 b2 = some #[.bool false, .slice none 0 0, .bool false, .slice none 0 0, .slice none 0 0, .bool false, .slice none 0 0, .bool false, .slice none 0 0, .slice none 0 0, .bool r8.re.neg, r8.re.mag.v, .bool r8.im.neg, r8.im.mag.v, r8.under.v, .bool r9.re.neg, r9.re.mag.v, .bool r9.im.neg, r9.im.mag.v, r9.under.v] →
 CallV Try.prog 13 #[.int .i64 3] V9 fun v V10 => ∃ r10 : NumV, v = r10.val ∧
 CallV Try.prog 27 #[(Sl.mk (some (Addr.mk b2 0 none)) 2 2).v, r10.val] V10 fun v V11 => ∃ (r11 : NumV) (r12 : Int), v = .tuple #[r11.val, .int .i64 r12] ∧
 CallV Try.prog 58 #[.int .i64 4, .int .i64 2] V11 fun v V12 => ∃ (r13 : Int) (r14 : Int), v = .tuple #[.int .i64 r13, .int .i64 r14] ∧
 (((r5 : Int) == 0) = true →
 (((r7 : Int) == 0) = true →
 CallV Try.prog 48 #[r6.val] V12 fun v V13 => ∃ r15 : ByteArray, v = .string r15 ∧
 ((ByteArray.toList r15 == ByteArray.toList (ByteArray.mk #[50])) = true →
 (((r12 : Int) == 0) = true →
 CallV Try.prog 48 #[r11.val] V13 fun v V14 => ∃ r16 : ByteArray, v = .string r16 ∧
 ((ByteArray.toList r16 == ByteArray.toList (ByteArray.mk #[54])) = true →
 (((r14 : Int) == 0) = true →
 R (.bool ((r13 : Int) == (-2))) V14) ∧
 (((r14 : Int) == 0) = false →
 R (.bool false) V14)) ∧
 ((ByteArray.toList r16 == ByteArray.toList (ByteArray.mk #[54])) = false →
 R (.bool false) V14)) ∧
 (((r12 : Int) == 0) = false →
 R (.bool false) V13)) ∧
 ((ByteArray.toList r15 == ByteArray.toList (ByteArray.mk #[50])) = false →
 R (.bool false) V13)) ∧
 (((r7 : Int) == 0) = false →
 R (.bool false) V12)) ∧
 (((r5 : Int) == 0) = false →
 R (.bool false) V12)) :
 CallV Try.prog 25 #[] V R :=
 calls_of_vc (Shp := Shp) hmixed Try.func25 (c := Try.f25.body.getD .skip) (args := []) (by kernel_rfl)
 (.seq (.reg [A 0 9]) (.seq (.reg [A 12 0, A 1 3, A 1 6]) (.seq (.draw [(0, A 1 4), (1, A 14 0), (2, A 15 10), (3, A 16 0), (4, A 17 0), (5, A 18 10), (6, A 19 10), (7, A 20 0), (8, A 21 0), (9, A 22 11), (10, A 2 2)] [0, 1, 0, 4, 12, 4, 36, 100, 228, 511, 1023]) (.seq (.reg [A 24 2, A 25 10, A 23 2, A 26 0, A 27 0, A 3 3, A 3 6, A 4 2]) (.seq (.reg [A 3 4, A 30 10, A 28 2, A 31 0, A 32 0, A 5 3, A 5 6, A 6 2]) (.seq (.reg [A 33 0, A 34 10, A 35 10, A 36 0, A 37 11, A 7 2]) (.seq (.reg [A 39 2, A 40 10, A 41 10, A 38 2, A 42 0, A 43 0, A 8 3, A 8 6, A 9 2]) (.seq (.reg [A 45 10, A 44 2, A 46 0, A 47 0, A 10 2, A 11 2]) (.seq (.reg [A 48 2, A 49 0, ⟨50, 2, true⟩, A 51 2, A 52 0, A 53 20, ⟨54, 2, true⟩, A 5 4, A 56 10, A 57 0, A 58 20, ⟨59, 2, true⟩, A 60 2, A 61 0, A 62 20, ⟨63, 2, true⟩, A 8 4, A 65 10, A 66 0, A 67 20, ⟨68, 2, true⟩, A 69 2, A 70 0, A 71 20, ⟨72, 2, true⟩, A 73 2, A 74 0, A 75 20, A 0 2]) .leaf)))))))))
 (Eq.mpr (by kernel_rfl) h)

end Go.Proofs.Ytefkpimcffofaaa
