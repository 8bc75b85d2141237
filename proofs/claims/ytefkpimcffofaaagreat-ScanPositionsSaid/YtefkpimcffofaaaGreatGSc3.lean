/- Part of the proof; it has the parts GSc3. -/
import Derived.Test.YtefkpimcffofaaaGreatFR1
set_option maxRecDepth 100000
set_option maxHeartbeats 4000000
namespace Go.Proofs.YtefkpimcffofaaaGreat
open Go Go.Vc Go.Proofs
open Go.IntKind (i8 i16 i32 i64 u8 u16 u32 u64)

theorem scan_between_vc (p0 : NumV) (p1 : NumV) (p2 : NumV) (V : View) (R : Value → View → Prop) 
 (h :
 CallV Tryz.prog 17 #[p1.val, p0.val] V fun v V1 => ∃ r1 : NumV, v = r1.val ∧
 CallV Tryz.prog 209 #[p2.val, r1.val] V1 fun v V2 => ∃ r2 : NumV, v = r2.val ∧
 CallV Tryz.prog 19 #[p0.val, r2.val] V2 fun v V3 => ∃ r3 : NumV, v = r3.val ∧
 R (r3.val) V3) :
 CallV Tryz.prog 170 #[p0.val, p1.val, p2.val] V R :=
 calls_of_vc (Shp := Shp) hmixed Tryz.func170 (c := Tryz.f170.body.getD .skip) (args := [p0.val, p1.val, p2.val]) (by kernel_rfl)
 (.seq (.reg [A 3 3, A 4 3, A 5 3, A 6 3]) (.seq (.draw [(0, A 3 4), (1, A 5 4), (2, A 4 4), (3, A 3 4), (4, A 11 10), (5, A 12 10), (6, A 13 10), (7, A 6 6)] [0, 0, 0, 0, 12, 30, 63, 127]) .leaf))
 (Eq.mpr (by kernel_rfl) h)

theorem scan_part_vc (p0 : NumV) (p1 : NumV) (p2 : NumV) (V : View) (R : Value → View → Prop) 
 (h :
 CallV Tryz.prog 17 #[p0.val, p1.val] V fun v V1 => ∃ r1 : NumV, v = r1.val ∧
 CallV Tryz.prog 17 #[p2.val, p1.val] V1 fun v V2 => ∃ r2 : NumV, v = r2.val ∧
 CallV Tryz.prog 201 #[r1.val, r2.val] V2 fun v V3 => ∃ (r3 : NumV) (r4 : Int), v = .tuple #[r3.val, .int .i64 r4] ∧
 R (r3.val) V3) :
 CallV Tryz.prog 171 #[p0.val, p1.val, p2.val] V R :=
 calls_of_vc (Shp := Shp) hmixed Tryz.func171 (c := Tryz.f171.body.getD .skip) (args := [p0.val, p1.val, p2.val]) (by kernel_rfl)
 (.seq (.reg [A 3 3, A 4 3, A 5 3, A 6 3]) (.seq (.draw [(0, A 3 4), (1, A 4 4), (3, A 5 4), (4, A 4 4), (10, A 7 3), (2, A 12 10), (5, A 15 10), (6, A 16 10), (7, A 9 2), (8, A 17 0), (9, A 18 0), (11, A 7 6), (12, A 8 2)] [0, 0, 3, 0, 0, 31, 63, 127, 255, 255, 0, 1535, 4095]) (.seq (.reg [A 7 4, A 6 6]) .leaf)))
 (Eq.mpr (by kernel_rfl) h)

theorem scan_checked_1_vc (p0 : Int) (p1 : Option Addr) (V : View) (R : Value → View → Prop) 
 (h :
 ∃ x1 : Sl, View.load V p1 = some (x1.v) ∧
 ((0 : Int) ≤ p0 ∧ (p0 : Int) < (x1.len : Nat) ∧ Option.isSome x1.a = true) ∧
 Option.isSome (Option.map (fun q => Addr.add q (Int.toNat p0 * 10)) x1.a) = true ∧
 ∃ x2 : NumV, View.has V (Option.map (fun q => Addr.add q 0) (Option.map (fun q => Addr.add q (Int.toNat p0 * 10)) x1.a)) (x2.val).cells.toList ∧ Option.isSome (Option.map (fun q => Addr.add q 0) (Option.map (fun q => Addr.add q (Int.toNat p0 * 10)) x1.a)) = true ∧
 ∃ x3 : Sl, View.load V p1 = some (x3.v) ∧
 ((0 : Int) ≤ p0 ∧ (p0 : Int) < (x3.len : Nat) ∧ Option.isSome x3.a = true) ∧
 Option.isSome (Option.map (fun q => Addr.add q (Int.toNat p0 * 10)) x3.a) = true ∧
 ∃ x4 : NumV, View.has V (Option.map (fun q => Addr.add q 5) (Option.map (fun q => Addr.add q (Int.toNat p0 * 10)) x3.a)) (x4.val).cells.toList ∧ Option.isSome (Option.map (fun q => Addr.add q 5) (Option.map (fun q => Addr.add q (Int.toNat p0 * 10)) x3.a)) = true ∧
 CallV Tryz.prog 167 #[x4.val] V fun v V1 => ∃ r1 : Bool, v = .bool r1 ∧
 R (.tuple #[x2.val, .bool r1]) V1) :
 CallV Tryz.prog 272 #[.int .i64 p0, .pointer p1] V R :=
 calls_of_vc (Shp := Shp) hmixed Tryz.func272 (c := Tryz.f272.body.getD .skip) (args := [.int .i64 p0, .pointer p1]) (by kernel_rfl)
 (.seq (.reg [A 3 3, A 4 9]) (.seq (.draw [(0, A 5 5), (1, A 6 2), (2, A 7 7), (3, A 8 7), (4, A 9 5), (5, A 10 5), (6, A 11 2), (7, A 12 7), (8, A 13 7), (9, A 14 5), (10, A 15 10), (11, A 3 6), (12, A 4 2)] [0, 0, 3, 7, 15, 0, 0, 96, 224, 480, 992, 2047, 4095]) .leaf))
 (Eq.mpr (by kernel_rfl) h)

structure L_scan_ascending__scan_checked_1_0 where
 u : Unit
structure L_scan_ascending__scan_checked_1_1 where
 t16 : Int
 o5 : NumV
def scan_ascending__scan_checked_1_f0 (p0 : Int) (p1 : Fn1) (_c : Unit) (_w _x : L_scan_ascending__scan_checked_1_0) : Prop := (Q1 (.val (.int .i64 p0)) ∧ Q1 (.val (.func (.func 272) #[] #[.pointer p1.p0])) ∧ True) ∧ (True)
def scan_ascending__scan_checked_1_f1 (p0 : Int) (p1 : Fn1) (_c : Unit) (w x : L_scan_ascending__scan_checked_1_1) : Prop := (Q1 (.val (.func (.func 272) #[] #[.pointer p1.p0])) ∧ Q1 (.own 5 0) ∧ Q1 (.val (.int .i64 p0)) ∧ E2 (.val (.int .i64 w.t16)) (.val (.int .i64 x.t16)) ∧ True) ∧ (O2 ⟨31, .fixed [.val (.bool w.o5.re.neg), .val (w.o5.re.mag.v), .val (.bool w.o5.im.neg), .val (w.o5.im.mag.v), .val (w.o5.under.v)]⟩ ⟨31, .fixed [.val (.bool x.o5.re.neg), .val (x.o5.re.mag.v), .val (.bool x.o5.im.neg), .val (x.o5.im.mag.v), .val (x.o5.under.v)]⟩ ∧ True)
def scan_ascending__scan_checked_1_sk (p0 : Int) (p1 : Fn1) (V : View) (R : Value → View → Prop) (I0 : Unit → L_scan_ascending__scan_checked_1_0 → View → Prop) (I1 : Unit → L_scan_ascending__scan_checked_1_1 → View → Prop) (E0 : Unit → L_scan_ascending__scan_checked_1_0 → View → Prop) (E1 : Unit → L_scan_ascending__scan_checked_1_1 → View → Prop) (B1 : Unit → L_scan_ascending__scan_checked_1_1 → View → L_scan_ascending__scan_checked_1_1 → View → Prop) : Prop :=
 ((((p0 : Int) == 0) = true →
 R (.int .i64 4) V) ∧
 (((p0 : Int) == 0) = false →
 ((decide ((p0 : Int) > 4096)) = true →
 R (.int .i64 4) V) ∧
 ((decide ((p0 : Int) > 4096)) = false →
 E0 () (L_scan_ascending__scan_checked_1_0.mk ()) V))) ∧
 (∀ (x1 : L_scan_ascending__scan_checked_1_0) (V1 : View), View.le V V1 → I0 () x1 V1 →
 E1 () (L_scan_ascending__scan_checked_1_1.mk 0 (NumV.mk (WhV.mk false (Sl.mk none 0 0)) (WhV.mk false (Sl.mk none 0 0)) (Sl.mk none 0 0))) V1 ∧
 (∀ (x4 : L_scan_ascending__scan_checked_1_1) (V2 : View), View.le V1 V2 → I1 () x4 V2 →
 ((decide ((x4.t16 : Int) < p0)) = true →
 CallV Tryz.prog 272 #[.int .i64 x4.t16, .pointer p1.p0] V2 fun v V3 => ∃ (r1 : NumV) (r2 : Bool), v = .tuple #[r1.val, .bool r2] ∧
 ((!r2) = true →
 R (.int .i64 1) V3) ∧
 ((!r2) = false →
 CallV Tryz.prog 167 #[r1.val] V3 fun v V4 => ∃ r3 : Bool, v = .bool r3 ∧
 ((!r3) = true →
 R (.int .i64 1) V4) ∧
 ((!r3) = false →
 ((decide ((x4.t16 : Int) > 0)) = true →
 CallV Tryz.prog 80 #[r1.val, x4.o5.val] V4 fun v V5 => ∃ r4 : Int, v = .int .i64 r4 ∧
 ((decide ((r4 : Int) ≤ 0)) = true →
 R (.int .i64 7) V5) ∧
 ((decide ((r4 : Int) ≤ 0)) = false →
 B1 () (L_scan_ascending__scan_checked_1_1.mk (i64.wrap (x4.t16 + 1)) r1) V5 x4 V2)) ∧
 ((decide ((x4.t16 : Int) > 0)) = false →
 B1 () (L_scan_ascending__scan_checked_1_1.mk (i64.wrap (x4.t16 + 1)) r1) V4 x4 V2)))) ∧
 ((decide ((x4.t16 : Int) < p0)) = false →
 R (.int .i64 0) V2)))

theorem scan_ascending__scan_checked_1_v0 (p0 : Int) (p1 : Fn1) (V : View) (R : Value → View → Prop) (I0 : Unit → L_scan_ascending__scan_checked_1_0 → View → Prop) (I1 : Unit → L_scan_ascending__scan_checked_1_1 → View → Prop) (J1 : Unit → L_scan_ascending__scan_checked_1_1 → View → Nat) {X : Prop} (e : scan_ascending__scan_checked_1_sk p0 p1 V R I0 I1 I0 I1 (fun c w V x U => I1 c w V ∧ J1 c w V < J1 c x U) = X) (h : X) :
 CallV Tryz.prog 210 #[.int .i64 p0, p1.val 272] V R :=
 calls_of_vc (Shp := Shp) hmixed Tryz.func210 (c := Tryz.f210.body.getD .skip) (args := [.int .i64 p0, p1.val 272]) (by kernel_rfl)
 (.seq (.reg [A 4 2]) (.cut Unit L_scan_ascending__scan_checked_1_0 (fun _ => ()) (fun c x => { tm := spT 42 0 [(0, .val (.int .i64 p0)), (1, .val (.func (.func 272) #[] #[.pointer p1.p0]))], own := spO 42 0 [] }) I0 (.seq (.reg [A 9 2, A 10 0, ⟨11, 2, true⟩, A 12 2, A 13 0, A 14 20]) (.cond (.seq (.reg [A 4 2]) .leaf) .leaf)) (.seq (.reg [A 5 3]) (.seq (.seq (.reg [A 15 2, A 16 2]) (.block (.loop Unit L_scan_ascending__scan_checked_1_1 (fun _ => ()) (fun c x => { tm := spT 42 0 [(1, .val (.func (.func 272) #[] #[.pointer p1.p0])), (5, .own 5 0), (15, .val (.int .i64 p0)), (16, .val (.int .i64 x.t16))], own := spO 42 0 [(5, ⟨31, .fixed [.val (.bool x.o5.re.neg), .val (x.o5.re.mag.v), .val (.bool x.o5.im.neg), .val (x.o5.im.mag.v), .val (x.o5.under.v)]⟩)] }) I1 J1 (.seq (.reg [A 17 0]) (.seq (.cond .leaf .leaf) (.seq (.block (.seq (.reg [A 18 2, A 6 2]) (.seq (.reg [A 20 2, A 21 2, A 22 10, A 19 2, A 23 0, A 24 0, A 7 3, A 7 6, A 8 2]) (.seq (.seq (.reg [A 25 2, A 26 20, ⟨27, 2, true⟩, A 7 4, A 29 10, A 30 20, A 31 20]) (.cond (.seq (.reg [A 4 2]) .leaf) .leaf)) (.seq (.seq (.reg [A 32 2, A 33 0, ⟨34, 2, true⟩, A 7 4, A 5 4, A 37 10, A 38 0, A 39 20]) (.cond (.seq (.reg [A 4 2]) .leaf) .leaf)) (.reg [A 7 4, A 5 6])))))) (.reg [A 41 0, A 16 2]))))))) (.seq (.reg [A 4 2]) .leaf)))))
 (Eq.mpr (by kernel_rfl) (show scan_ascending__scan_checked_1_sk p0 p1 V R I0 I1 (fun c w V => ∃ x, scan_ascending__scan_checked_1_f0 p0 p1 c w x ∧ I0 c x V) (fun c w V => ∃ x, scan_ascending__scan_checked_1_f1 p0 p1 c w x ∧ I1 c x V) (fun c w V y U => ∃ x, scan_ascending__scan_checked_1_f1 p0 p1 c w x ∧ I1 c x V ∧ J1 c x V < J1 c y U) from by
 have h := Eq.mpr e h; unfold scan_ascending__scan_checked_1_sk at h ⊢; have Ee0 := fun c w V (h : I0 c w V) => (⟨w, ⟨⟨rfl, rfl, trivial⟩, trivial⟩, h⟩ : ∃ x, scan_ascending__scan_checked_1_f0 p0 p1 c w x ∧ I0 c x V); have Ee1 := fun c w V (h : I1 c w V) => (⟨w, ⟨⟨rfl, rfl, rfl, rfl, trivial⟩, ⟨rfl, trivial⟩⟩, h⟩ : ∃ x, scan_ascending__scan_checked_1_f1 p0 p1 c w x ∧ I1 c x V); have Bb1 := fun c w V y U (h : I1 c w V ∧ J1 c w V < J1 c y U) => (⟨w, ⟨⟨rfl, rfl, rfl, rfl, trivial⟩, ⟨rfl, trivial⟩⟩, h⟩ : ∃ x, scan_ascending__scan_checked_1_f1 p0 p1 c w x ∧ I1 c x V ∧ J1 c x V < J1 c y U); exact ⟨⟨fun h2 => (h.1.1 h2), fun h2 => ⟨fun h1 => ((h.1.2 h2).1 h1), fun h1 => (Ee0 _ _ _ ((h.1.2 h2).2 h1))⟩⟩, fun x1 V1 h16 h17 => ⟨(Ee1 _ _ _ (h.2 x1 V1 h16 h17).1), fun x4 V2 h14 h15 => ⟨fun h13 => (CallV.mono (((h.2 x1 V1 h16 h17).2 x4 V2 h14 h15).1 h13) (fun _ _ _ ⟨r1, r2, h12, h11⟩ => ⟨r1, r2, h12, ⟨fun h10 => (h11.1 h10), fun h10 => (CallV.mono (h11.2 h10) (fun _ _ _ ⟨r3, h9, h8⟩ => ⟨r3, h9, ⟨fun h7 => (h8.1 h7), fun h7 => ⟨fun h6 => (CallV.mono ((h8.2 h7).1 h6) (fun _ _ _ ⟨r4, h5, h4⟩ => ⟨r4, h5, ⟨fun h3 => (h4.1 h3), fun h3 => (Bb1 _ _ _ _ _ (h4.2 h3))⟩⟩)), fun h6 => (Bb1 _ _ _ _ _ ((h8.2 h7).2 h6))⟩⟩⟩))⟩⟩)), fun h13 => (((h.2 x1 V1 h16 h17).2 x4 V2 h14 h15).2 h13)⟩⟩⟩))

theorem scan_ascending__scan_checked_1_vc : type_of% (fun p0 p1 V R I0 I1 J1 => scan_ascending__scan_checked_1_v0 p0 p1 V R I0 I1 J1 (scan_ascending__scan_checked_1_sk.eq_1 ..)) := fun p0 p1 V R I0 I1 J1 => scan_ascending__scan_checked_1_v0 p0 p1 V R I0 I1 J1 (scan_ascending__scan_checked_1_sk.eq_1 ..)

theorem scan_checked_vc (p0 : Sl) (V : View) (R : Value → View → Prop) 
 (h :
 ∀ (b1 : Nat) (V1 : View), View.le V V1 → V1 b1 = some (List.toArray ([p0.v])) →
 ∃ x1 : Sl, View.load V1 (some (Addr.mk b1 0 none)) = some (x1.v) ∧
 CallV Tryz.prog 210 #[.int .i64 (x1.len : Int), .func (.func 272) #[] #[.pointer (some (Addr.mk b1 0 none))]] V1 fun v V2 => ∃ r1 : Int, v = .int .i64 r1 ∧
 R (.int .i64 r1) V2) :
 CallV Tryz.prog 166 #[p0.v] V R :=
 calls_of_vc (Shp := Shp) hmixed Tryz.func166 (c := Tryz.f166.body.getD .skip) (args := [p0.v]) (by kernel_rfl)
 (.seq (.reg [A 1 3, A 2 2]) (.seq (.pub 1 (.reg [A 3 5, A 4 0, A 5 0, A 6 10, A 2 2])) .leaf))
 (Eq.mpr (by kernel_rfl) h)

structure L_scan_first_0 where
 t6 : Int
 o4 : NumV
def scan_first_f0 (p0 : Sl) (p1 : NumV) (_c : Unit) (w x : L_scan_first_0) : Prop := (Q1 (.val (p0.v)) ∧ Q1 (.own 3 0) ∧ Q1 (.own 4 0) ∧ E2 (.val (.int .i64 w.t6)) (.val (.int .i64 x.t6)) ∧ True) ∧ (O2 ⟨31, .fixed [.val (.bool p1.re.neg), .val (p1.re.mag.v), .val (.bool p1.im.neg), .val (p1.im.mag.v), .val (p1.under.v)]⟩ ⟨31, .fixed [.val (.bool p1.re.neg), .val (p1.re.mag.v), .val (.bool p1.im.neg), .val (p1.im.mag.v), .val (p1.under.v)]⟩ ∧ O2 ⟨31, .fixed [.val (.bool w.o4.re.neg), .val (w.o4.re.mag.v), .val (.bool w.o4.im.neg), .val (w.o4.im.mag.v), .val (w.o4.under.v)]⟩ ⟨31, .fixed [.val (.bool x.o4.re.neg), .val (x.o4.re.mag.v), .val (.bool x.o4.im.neg), .val (x.o4.im.mag.v), .val (x.o4.under.v)]⟩ ∧ True)
def scan_first_sk (p0 : Sl) (p1 : NumV) (V : View) (R : Value → View → Prop) (I0 : Unit → L_scan_first_0 → View → Prop) (E0 : Unit → L_scan_first_0 → View → Prop) (B0 : Unit → L_scan_first_0 → View → L_scan_first_0 → View → Prop) : Prop :=
 ((0 : Int) ≤ 0 ∧ (0 : Int) < (p0.len : Nat) ∧ Option.isSome p0.a = true) ∧
 Option.isSome (Option.map (fun q => Addr.add q (Int.toNat 0 * 10)) p0.a) = true ∧
 ∃ x1 : NumV, View.has V (Option.map (fun q => Addr.add q 5) (Option.map (fun q => Addr.add q (Int.toNat 0 * 10)) p0.a)) (x1.val).cells.toList ∧ Option.isSome (Option.map (fun q => Addr.add q 5) (Option.map (fun q => Addr.add q (Int.toNat 0 * 10)) p0.a)) = true ∧
 CallV Tryz.prog 94 #[x1.val, p1.val] V fun v V1 => ∃ r1 : Bool, v = .bool r1 ∧
 (r1 = true →
 ((0 : Int) ≤ 0 ∧ (0 : Int) < (p0.len : Nat) ∧ Option.isSome p0.a = true) ∧
 Option.isSome (Option.map (fun q => Addr.add q (Int.toNat 0 * 10)) p0.a) = true ∧
 ∃ x2 : NumV, View.has V1 (Option.map (fun q => Addr.add q 0) (Option.map (fun q => Addr.add q (Int.toNat 0 * 10)) p0.a)) (x2.val).cells.toList ∧ Option.isSome (Option.map (fun q => Addr.add q 0) (Option.map (fun q => Addr.add q (Int.toNat 0 * 10)) p0.a)) = true ∧
 R (.tuple #[x2.val, .bool true]) V1) ∧
 (r1 = false →
 E0 () (L_scan_first_0.mk 1 (NumV.mk (WhV.mk false (Sl.mk none 0 0)) (WhV.mk false (Sl.mk none 0 0)) (Sl.mk none 0 0))) V1 ∧
 (∀ (x4 : L_scan_first_0) (V2 : View), View.le V1 V2 → I0 () x4 V2 →
 ((decide ((x4.t6 : Int) < (p0.len : Int))) = true →
 ((0 : Int) ≤ (i64.wrap (x4.t6 - 1)) ∧ ((i64.wrap (x4.t6 - 1)) : Int) < (p0.len : Nat) ∧ Option.isSome p0.a = true) ∧
 ∃ x5 : TickV, View.has V2 (Option.map (fun q => Addr.add q (Int.toNat (i64.wrap (x4.t6 - 1)) * 10)) p0.a) (x5.val).cells.toList ∧ Option.isSome (Option.map (fun q => Addr.add q (Int.toNat (i64.wrap (x4.t6 - 1)) * 10)) p0.a) = true ∧
 ((0 : Int) ≤ x4.t6 ∧ (x4.t6 : Int) < (p0.len : Nat) ∧ Option.isSome p0.a = true) ∧
 ∃ x6 : TickV, View.has V2 (Option.map (fun q => Addr.add q (Int.toNat x4.t6 * 10)) p0.a) (x6.val).cells.toList ∧ Option.isSome (Option.map (fun q => Addr.add q (Int.toNat x4.t6 * 10)) p0.a) = true ∧
 CallV Tryz.prog 80 #[x5.place.val, p1.val] V2 fun v V3 => ∃ r2 : Int, v = .int .i64 r2 ∧
 CallV Tryz.prog 80 #[x6.place.val, p1.val] V3 fun v V4 => ∃ r3 : Int, v = .int .i64 r3 ∧
 ((decide (((i64.wrap (r2 * r3)) : Int) > 0)) = true →
 B0 () (L_scan_first_0.mk (i64.wrap (x4.t6 + 1)) x4.o4) V4 x4 V2) ∧
 ((decide (((i64.wrap (r2 * r3)) : Int) > 0)) = false →
 CallV Tryz.prog 94 #[x5.place.val, x6.place.val] V4 fun v V5 => ∃ r4 : Bool, v = .bool r4 ∧
 (r4 = true →
 B0 () (L_scan_first_0.mk (i64.wrap (x4.t6 + 1)) x4.o4) V5 x4 V2) ∧
 (r4 = false →
 CallV Tryz.prog 171 #[p1.val, x5.place.val, x6.place.val] V5 fun v V6 => ∃ r5 : NumV, v = r5.val ∧
 CallV Tryz.prog 170 #[x5.time.val, x6.time.val, r5.val] V6 fun v V7 => ∃ r6 : NumV, v = r6.val ∧
 R (.tuple #[r6.val, .bool true]) V7))) ∧
 ((decide ((x4.t6 : Int) < (p0.len : Int))) = false →
 R (.tuple #[(NumV.mk (WhV.mk false (Sl.mk none 0 0)) (WhV.mk false (Sl.mk none 0 0)) (Sl.mk none 0 0)).val, .bool false]) V2)))

theorem scan_first_v0 (p0 : Sl) (p1 : NumV) (V : View) (R : Value → View → Prop) (I0 : Unit → L_scan_first_0 → View → Prop) (J0 : Unit → L_scan_first_0 → View → Nat) {X : Prop} (e : scan_first_sk p0 p1 V R I0 I0 (fun c w V x U => I0 c w V ∧ J0 c w V < J0 c x U) = X) (h : X) :
 CallV Tryz.prog 179 #[p0.v, p1.val] V R :=
 calls_of_vc (Shp := Shp) hmixed Tryz.func179 (c := Tryz.f179.body.getD .skip) (args := [p0.v, p1.val]) (by kernel_rfl)
 (.seq (.reg [A 3 3, A 4 3, A 5 9]) (.seq (.seq (.draw [(0, A 9 2), (1, A 10 7), (2, A 11 7), (3, A 12 5), (4, A 3 4), (5, A 14 10)] [0, 1, 3, 7, 0, 31]) (.cond (.seq (.reg [A 15 2, A 16 7, A 17 7, A 18 5, A 4 6, A 5 9]) .leaf) .leaf)) (.seq (.seq (.reg [A 6 2]) (.block (.loop Unit L_scan_first_0 (fun _ => ()) (fun c x => { tm := spT 63 0 [(0, .val (p0.v)), (3, .own 3 0), (4, .own 4 0), (6, .val (.int .i64 x.t6))], own := spO 63 0 [(3, ⟨31, .fixed [.val (.bool p1.re.neg), .val (p1.re.mag.v), .val (.bool p1.im.neg), .val (p1.im.mag.v), .val (p1.under.v)]⟩), (4, ⟨31, .fixed [.val (.bool x.o4.re.neg), .val (x.o4.re.mag.v), .val (.bool x.o4.im.neg), .val (x.o4.im.mag.v), .val (x.o4.under.v)]⟩)] }) I0 J0 (.seq (.seq (.reg [A 19 2, A 20 2, A 21 0, A 22 0]) (.cond .leaf .leaf)) (.seq (.block (.seq (.draw [(0, A 25 2), (1, A 26 2), (2, A 27 0), (3, A 28 7), (4, A 29 5), (5, A 30 2), (6, A 31 2), (7, A 32 7), (8, A 33 5), (9, A 7 3), (10, A 8 3), (11, A 7 6), (12, A 8 6)] [0, 0, 2, 7, 15, 0, 0, 96, 224, 0, 0, 1567, 4095]) (.seq (.seq (.draw [(0, A 34 7), (1, A 7 4), (2, A 3 4), (4, A 38 7), (5, A 8 4), (6, A 3 4), (3, A 37 10), (7, A 41 10), (8, A 42 0), (9, A 43 0), (10, ⟨44, 2, true⟩), (11, A 45 7), (12, A 7 4), (13, A 47 7), (14, A 8 4), (15, A 49 10), (16, A 50 20)] [0, 1, 0, 7, 0, 16, 0, 127, 255, 511, 1023, 2047, 4095, 2047, 10239, 32767, 65535]) (.cond .leaf .leaf)) (.seq (.draw [(0, A 51 7), (1, A 7 4), (2, A 53 7), (3, A 8 4), (4, A 3 4), (5, A 56 7), (6, A 7 4), (7, A 58 7), (8, A 8 4), (9, A 60 10), (10, A 61 10), (11, A 4 6), (12, A 5 9)] [0, 1, 0, 4, 0, 0, 32, 0, 128, 496, 1023, 2047, 4095]) .leaf)))) (.reg [A 23 2, A 24 0, A 6 2])))))) (.seq (.reg [A 62 0, A 4 6, A 5 9]) .leaf))))
 (Eq.mpr (by kernel_rfl) (show scan_first_sk p0 p1 V R I0 (fun c w V => ∃ x, scan_first_f0 p0 p1 c w x ∧ I0 c x V) (fun c w V y U => ∃ x, scan_first_f0 p0 p1 c w x ∧ I0 c x V ∧ J0 c x V < J0 c y U) from by
 have h := Eq.mpr e h; unfold scan_first_sk at h ⊢; have Ee0 := fun c w V (h : I0 c w V) => (⟨w, ⟨⟨rfl, rfl, rfl, rfl, trivial⟩, ⟨rfl, rfl, trivial⟩⟩, h⟩ : ∃ x, scan_first_f0 p0 p1 c w x ∧ I0 c x V); have Bb0 := fun c w V y U (h : I0 c w V ∧ J0 c w V < J0 c y U) => (⟨w, ⟨⟨rfl, rfl, rfl, rfl, trivial⟩, ⟨rfl, rfl, trivial⟩⟩, h⟩ : ∃ x, scan_first_f0 p0 p1 c w x ∧ I0 c x V ∧ J0 c x V < J0 c y U); exact ⟨h.1, ⟨h.2.1, (match h.2.2 with | ⟨x1, h29, h30, h28⟩ => ⟨x1, h29, h30, (CallV.mono h28 (fun _ _ _ ⟨r1, h27, h26⟩ => ⟨r1, h27, ⟨fun h25 => ⟨(h26.1 h25).1, ⟨(h26.1 h25).2.1, (match (h26.1 h25).2.2 with | ⟨x2, h2, h3, h1⟩ => ⟨x2, h2, h3, h1⟩)⟩⟩, fun h25 => ⟨(Ee0 _ _ _ (h26.2 h25).1), fun x4 V2 h23 h24 => ⟨fun h22 => ⟨(((h26.2 h25).2 x4 V2 h23 h24).1 h22).1, (match (((h26.2 h25).2 x4 V2 h23 h24).1 h22).2 with | ⟨x5, h20, h21, h19⟩ => ⟨x5, h20, h21, ⟨h19.1, (match h19.2 with | ⟨x6, h17, h18, h16⟩ => ⟨x6, h17, h18, (CallV.mono h16 (fun _ _ _ ⟨r2, h15, h14⟩ => ⟨r2, h15, (CallV.mono h14 (fun _ _ _ ⟨r3, h13, h12⟩ => ⟨r3, h13, ⟨fun h11 => (Bb0 _ _ _ _ _ (h12.1 h11)), fun h11 => (CallV.mono (h12.2 h11) (fun _ _ _ ⟨r4, h10, h9⟩ => ⟨r4, h10, ⟨fun h8 => (Bb0 _ _ _ _ _ (h9.1 h8)), fun h8 => (CallV.mono (h9.2 h8) (fun _ _ _ ⟨r5, h7, h6⟩ => ⟨r5, h7, (CallV.mono h6 (fun _ _ _ ⟨r6, h5, h4⟩ => ⟨r6, h5, h4⟩))⟩))⟩⟩))⟩⟩))⟩))⟩)⟩⟩)⟩, fun h22 => (((h26.2 h25).2 x4 V2 h23 h24).2 h22)⟩⟩⟩⟩))⟩)⟩⟩))

theorem scan_first_vc : type_of% (fun p0 p1 V R I0 J0 => scan_first_v0 p0 p1 V R I0 J0 (scan_first_sk.eq_1 ..)) := fun p0 p1 V R I0 J0 => scan_first_v0 p0 p1 V R I0 J0 (scan_first_sk.eq_1 ..)

theorem scan_When_vc (p0 : Sl) (p1 : NumV) (V : View) (R : Value → View → Prop) 
 (h :
 CallV Tryz.prog 166 #[p0.v] V fun v V1 => ∃ r1 : Int, v = .int .i64 r1 ∧
 (((r1 : Int) != 0) = true →
 R (.tuple #[(NumV.mk (WhV.mk false (Sl.mk none 0 0)) (WhV.mk false (Sl.mk none 0 0)) (Sl.mk none 0 0)).val, .int .i64 r1]) V1) ∧
 (((r1 : Int) != 0) = false →
 CallV Tryz.prog 167 #[p1.val] V1 fun v V2 => ∃ r2 : Bool, v = .bool r2 ∧
 ((!r2) = true →
 R (.tuple #[(NumV.mk (WhV.mk false (Sl.mk none 0 0)) (WhV.mk false (Sl.mk none 0 0)) (Sl.mk none 0 0)).val, .int .i64 1]) V2) ∧
 ((!r2) = false →
 CallV Tryz.prog 179 #[p0.v, p1.val] V2 fun v V3 => ∃ (r3 : NumV) (r4 : Bool), v = .tuple #[r3.val, .bool r4] ∧
 ((!r4) = true →
 R (.tuple #[(NumV.mk (WhV.mk false (Sl.mk none 0 0)) (WhV.mk false (Sl.mk none 0 0)) (Sl.mk none 0 0)).val, .int .i64 5]) V3) ∧
 ((!r4) = false →
 R (.tuple #[r3.val, .int .i64 0]) V3)))) :
 CallV Tryz.prog 70 #[p0.v, p1.val] V R :=
 calls_of_vc (Shp := Shp) hmixed Tryz.func70 (c := Tryz.f70.body.getD .skip) (args := [p0.v, p1.val]) (by kernel_rfl)
 (.seq (.reg [A 3 3, A 4 3, A 5 2]) (.seq (.seq (.reg [A 9 2, A 10 10, A 6 2]) (.seq (.reg [A 11 2, A 12 0]) (.cond (.seq (.reg [A 13 0, A 14 2, A 4 6, A 5 2]) .leaf) .leaf))) (.seq (.seq (.reg [A 3 4, A 16 10, A 17 20]) (.cond (.seq (.reg [A 18 0, A 4 6, A 5 2]) .leaf) .leaf)) (.seq (.reg [A 20 2, A 3 4, A 22 10, A 19 2, A 23 0, A 24 0, A 7 3, A 7 6, A 8 2]) (.seq (.seq (.reg [A 25 2, A 26 20]) (.cond (.seq (.reg [A 27 0, A 4 6, A 5 2]) .leaf) .leaf)) (.seq (.reg [A 7 4, A 4 6, A 5 2]) .leaf))))))
 (Eq.mpr (by kernel_rfl) h)

end Go.Proofs.YtefkpimcffofaaaGreat
