/- Part of the proof; it has the parts GRt1. -/
import Derived.Test.YtkibfmnkkiakoaaGreatGBlb
set_option maxRecDepth 100000
set_option maxHeartbeats 4000000
namespace Go.Proofs.YtkibfmnkkiakoaaGreat
open Go Go.Vc Go.Proofs
open Go.IntKind (i8 i16 i32 i64 u8 u16 u32 u64)

structure L_box_search_0 where
 t3 : Int
 t4 : Int
def box_search_f0 (p0 : Fn1) (_c : Unit) (w x : L_box_search_0) : Prop := (Q1 (.val (.func (.func 218) #[] #[.pointer p0.p0])) ∧ E2 (.val (.int .u64 w.t3)) (.val (.int .u64 x.t3)) ∧ E2 (.val (.int .u64 w.t4)) (.val (.int .u64 x.t4)) ∧ True) ∧ (True)
def box_search_sk (p0 : Fn1) (V : View) (R : Value → View → Prop) (I0 : Unit → L_box_search_0 → View → Prop) (E0 : Unit → L_box_search_0 → View → Prop) (B0 : Unit → L_box_search_0 → View → L_box_search_0 → View → Prop) : Prop :=
 ∃ e1 : Int, ExtVal Tryz.prog 182 #[.float .f64 9218868437227405311] (.int .u64 e1) ∧
 E0 () (L_box_search_0.mk 0 e1) V ∧
 (∀ (x2 : L_box_search_0) (V1 : View), View.le V V1 → I0 () x2 V1 →
 ((decide ((x2.t3 : Int) < x2.t4)) = true →
 ∃ e2 : Nat, ExtVal Tryz.prog 221 #[.int .u64 (u64.wrap (x2.t3 + (u64.wrap (Int.tdiv (u64.wrap ((u64.wrap (x2.t4 - x2.t3)) + 1)) 2))))] (.float .f64 e2) ∧
 CallV Tryz.prog 218 #[.float .f64 e2, .pointer p0.p0] V1 fun v V2 => ∃ r1 : Bool, v = .bool r1 ∧
 (r1 = true →
 B0 () (L_box_search_0.mk (u64.wrap (x2.t3 + (u64.wrap (Int.tdiv (u64.wrap ((u64.wrap (x2.t4 - x2.t3)) + 1)) 2)))) x2.t4) V2 x2 V1) ∧
 (r1 = false →
 B0 () (L_box_search_0.mk x2.t3 (u64.wrap ((u64.wrap (x2.t3 + (u64.wrap (Int.tdiv (u64.wrap ((u64.wrap (x2.t4 - x2.t3)) + 1)) 2)))) - 1))) V2 x2 V1)) ∧
 ((decide ((x2.t3 : Int) < x2.t4)) = false →
 ∃ e3 : Nat, ExtVal Tryz.prog 221 #[.int .u64 x2.t3] (.float .f64 e3) ∧
 R (.float .f64 e3) V1))

theorem box_search_v0 (p0 : Fn1) (V : View) (R : Value → View → Prop) (I0 : Unit → L_box_search_0 → View → Prop) (J0 : Unit → L_box_search_0 → View → Nat) {X : Prop} (e : box_search_sk p0 V R I0 I0 (fun c w V x U => I0 c w V ∧ J0 c w V < J0 c x U) = X) (h : X) :
 CallV Tryz.prog 217 #[p0.val 218] V R :=
 calls_of_vc (Shp := Shp) hmixed Tryz.func217 (c := Tryz.f217.body.getD .skip) (args := [p0.val 218]) (by kernel_rfl)
 (.seq (.reg [A 2 2]) (.seq (.reg [A 6 12, A 3 2, A 4 2]) (.seq (.block (.loop Unit L_box_search_0 (fun _ => ()) (fun c x => { tm := spT 26 0 [(0, .val (.func (.func 218) #[] #[.pointer p0.p0])), (3, .val (.int .u64 x.t3)), (4, .val (.int .u64 x.t4))], own := spO 26 0 [] }) I0 J0 (.seq (.seq (.reg [A 7 2, A 8 2, A 9 0]) (.cond .leaf .leaf)) (.block (.seq (.reg [A 10 2, A 11 2, A 12 2, A 13 0, A 14 0, A 15 0, A 16 0, A 5 2]) (.seq (.reg [A 17 2, A 18 2, A 19 12, A 20 10]) (.cond (.reg [A 21 2, A 3 2]) (.reg [A 22 2, A 23 0, A 4 2])))))))) (.seq (.reg [A 24 2, A 25 12, A 2 2]) .leaf))))
 (Eq.mpr (by kernel_rfl) (show box_search_sk p0 V R I0 (fun c w V => ∃ x, box_search_f0 p0 c w x ∧ I0 c x V) (fun c w V y U => ∃ x, box_search_f0 p0 c w x ∧ I0 c x V ∧ J0 c x V < J0 c y U) from by
 have h := Eq.mpr e h; unfold box_search_sk at h ⊢; have Ee0 := fun c w V (h : I0 c w V) => (⟨w, ⟨⟨rfl, rfl, rfl, trivial⟩, trivial⟩, h⟩ : ∃ x, box_search_f0 p0 c w x ∧ I0 c x V); have Bb0 := fun c w V y U (h : I0 c w V ∧ J0 c w V < J0 c y U) => (⟨w, ⟨⟨rfl, rfl, rfl, trivial⟩, trivial⟩, h⟩ : ∃ x, box_search_f0 p0 c w x ∧ I0 c x V ∧ J0 c x V < J0 c y U); exact (match h with | ⟨e1, h12, h11⟩ => ⟨e1, h12, ⟨(Ee0 _ _ _ h11.1), fun x2 V1 h9 h10 => ⟨fun h8 => (match ((h11.2 x2 V1 h9 h10).1 h8) with | ⟨e2, h5, h4⟩ => ⟨e2, h5, (CallV.mono h4 (fun _ _ _ ⟨r1, h3, h2⟩ => ⟨r1, h3, ⟨fun h1 => (Bb0 _ _ _ _ _ (h2.1 h1)), fun h1 => (Bb0 _ _ _ _ _ (h2.2 h1))⟩⟩))⟩), fun h8 => (match ((h11.2 x2 V1 h9 h10).2 h8) with | ⟨e3, h7, h6⟩ => ⟨e3, h7, h6⟩)⟩⟩⟩)))

theorem box_search_vc : type_of% (fun p0 V R I0 J0 => box_search_v0 p0 V R I0 J0 (box_search_sk.eq_1 ..)) := fun p0 V R I0 J0 => box_search_v0 p0 V R I0 J0 (box_search_sk.eq_1 ..)

theorem box_root_1_vc (p0 : Nat) (p1 : Option Addr) (p2 : Option Addr) (V : View) (R : Value → View → Prop) 
 (h :
 CallV Tryz.prog 216 #[.float .f64 p0] V fun v V1 => ∃ r1 : NumV, v = r1.val ∧
 Option.isSome p1 = true ∧
 ∃ x1 : NumV, View.has V1 (Option.map (fun q => Addr.add q 1) p1) (x1.val).cells.toList ∧ Option.isSome (Option.map (fun q => Addr.add q 1) p1) = true ∧
 CallV Tryz.prog 91 #[r1.val, r1.val] V1 fun v V2 => ∃ r2 : NumV, v = r2.val ∧
 CallV Tryz.prog 169 #[.int .i64 2] V2 fun v V3 => ∃ r3 : NumV, v = r3.val ∧
 CallV Tryz.prog 91 #[r2.val, r3.val] V3 fun v V4 => ∃ r4 : NumV, v = r4.val ∧
 CallV Tryz.prog 80 #[r4.val, x1.val] V4 fun v V5 => ∃ r5 : NumV, v = r5.val ∧
 CallV Tryz.prog 198 #[r5.val, (NumV.mk (WhV.mk false (Sl.mk none 0 0)) (WhV.mk false (Sl.mk none 0 0)) (Sl.mk none 0 0)).val] V5 fun v V6 => ∃ r6 : Int, v = .int .i64 r6 ∧
 ((decide ((r6 : Int) < 0)) = true →
 R (.int .i64 (-1)) V6) ∧
 ((decide ((r6 : Int) < 0)) = false →
 ∃ x2 : NumV, View.has V6 p2 (x2.val).cells.toList ∧ Option.isSome p2 = true ∧
 CallV Tryz.prog 91 #[r5.val, r5.val] V6 fun v V7 => ∃ r7 : NumV, v = r7.val ∧
 CallV Tryz.prog 198 #[r7.val, x2.val] V7 fun v V8 => ∃ r8 : Int, v = .int .i64 r8 ∧
 R (.int .i64 r8) V8)) :
 CallV Tryz.prog 215 #[.float .f64 p0, .pointer p1, .pointer p2] V R :=
 calls_of_vc (Shp := Shp) hmixed Tryz.func215 (c := Tryz.f215.body.getD .skip) (args := [.float .f64 p0, .pointer p1, .pointer p2]) (by kernel_rfl)
 (.seq (.reg [A 4 2]) (.seq (.reg [A 7 2, A 8 10, A 5 3, A 5 6]) (.seq (.draw [(0, A 5 4), (1, A 5 4), (5, A 14 7), (6, A 15 5), (8, A 6 3), (2, A 11 10), (3, A 12 10), (4, A 13 10), (7, A 16 10), (9, A 6 6)] [0, 0, 3, 7, 15, 0, 32, 127, 0, 511]) (.seq (.seq (.reg [A 6 4, A 18 0, A 19 10, A 20 0]) (.cond (.seq (.reg [A 4 2]) .leaf) .leaf)) (.seq (.draw [(0, A 6 4), (1, A 6 4), (3, A 24 5), (2, A 23 10), (4, A 25 10), (5, A 4 2)] [0, 0, 3, 0, 15, 31]) .leaf)))))
 (Eq.mpr (by kernel_rfl) h)

theorem box_root_2_vc (p0 : Nat) (p1 : Option Addr) (V : View) (R : Value → View → Prop) 
 (h :
 ∃ x1 : Fn2, View.load V p1 = some (x1.val 215) ∧
 CallV Tryz.prog 215 #[.float .f64 p0, .pointer x1.p0, .pointer x1.p1] V fun v V1 => ∃ r1 : Int, v = .int .i64 r1 ∧
 R (.bool (decide ((r1 : Int) ≤ 0))) V1) :
 CallV Tryz.prog 218 #[.float .f64 p0, .pointer p1] V R :=
 calls_of_vc (Shp := Shp) hmixed Tryz.func218 (c := Tryz.f218.body.getD .skip) (args := [.float .f64 p0, .pointer p1]) (by kernel_rfl)
 (.seq (.reg [A 3 9]) (.seq (.reg [A 4 5, A 5 2, A 6 10, A 7 0, A 3 2]) .leaf))
 (Eq.mpr (by kernel_rfl) h)

theorem math_Nextafter_vc (p0 : Nat) (p1 : Nat) (V : View) (R : Value → View → Prop) 
 (h :
 CallV Tryz.prog 206 #[.float .f64 p0] V fun v V1 => ∃ r1 : Bool, v = .bool r1 ∧
 (r1 = true →
 CallV Tryz.prog 258 #[] V1 fun v V2 => ∃ r2 : Nat, v = .float .f64 r2 ∧
 R (.float .f64 r2) V2) ∧
 (r1 = false →
 CallV Tryz.prog 206 #[.float .f64 p1] V1 fun v V3 => ∃ r3 : Bool, v = .bool r3 ∧
 (r3 = true →
 CallV Tryz.prog 258 #[] V3 fun v V4 => ∃ r4 : Nat, v = .float .f64 r4 ∧
 R (.float .f64 r4) V4) ∧
 (r3 = false →
 ((FloatKind.f64.format.order p0 p1 == some .eq) = true →
 R (.float .f64 p0) V3) ∧
 ((FloatKind.f64.format.order p0 p1 == some .eq) = false →
 ((FloatKind.f64.format.order p0 0 == some .eq) = true →
 ∃ e1 : Nat, ExtVal Tryz.prog 221 #[.int .u64 1] (.float .f64 e1) ∧
 CallV Tryz.prog 259 #[.float .f64 e1, .float .f64 p1] V3 fun v V5 => ∃ r5 : Nat, v = .float .f64 r5 ∧
 R (.float .f64 r5) V5) ∧
 ((FloatKind.f64.format.order p0 0 == some .eq) = false →
 (((FloatKind.f64.format.order p1 p0 == some .gt) == (FloatKind.f64.format.order p0 0 == some .gt)) = true →
 ∃ e2 : Int, ExtVal Tryz.prog 182 #[.float .f64 p0] (.int .u64 e2) ∧
 ∃ e3 : Nat, ExtVal Tryz.prog 221 #[.int .u64 (u64.wrap (e2 + 1))] (.float .f64 e3) ∧
 R (.float .f64 e3) V3) ∧
 (((FloatKind.f64.format.order p1 p0 == some .gt) == (FloatKind.f64.format.order p0 0 == some .gt)) = false →
 ∃ e4 : Int, ExtVal Tryz.prog 182 #[.float .f64 p0] (.int .u64 e4) ∧
 ∃ e5 : Nat, ExtVal Tryz.prog 221 #[.int .u64 (u64.wrap (e4 - 1))] (.float .f64 e5) ∧
 R (.float .f64 e5) V3)))))) :
 CallV Tryz.prog 219 #[.float .f64 p0, .float .f64 p1] V R :=
 calls_of_vc (Shp := Shp) hmixed Tryz.func219 (c := Tryz.f219.body.getD .skip) (args := [.float .f64 p0, .float .f64 p1]) (by kernel_rfl)
 (.seq (.reg [A 4 2]) (.seq (.block (.seq (.reg [A 10 2, A 11 10, ⟨12, 2, true⟩, A 13 2, A 14 10, A 15 20, A 9 2]) (.cond (.reg [A 16 10, A 4 2]) (.seq (.reg [A 18 2, A 19 2, A 20 0, A 17 2]) (.cond (.reg [A 21 2, A 4 2]) (.seq (.reg [A 23 2, A 24 0, A 22 2]) (.cond (.reg [A 25 12, A 26 2, A 27 10, A 4 2]) (.seq (.reg [A 29 2, A 30 2, A 31 0, A 32 2, A 33 0, A 34 0, A 28 2]) (.cond (.reg [A 35 2, A 36 12, A 37 0, A 38 12, A 4 2]) (.reg [A 5 2, A 6 12, A 7 0, A 8 12, A 4 2])))))))))) .leaf))
 (Eq.mpr (by kernel_rfl) h)

theorem box_root_vc (p0 : BdV) (p1 : BdV) (p2 : Bool) (V : View) (R : Value → View → Prop) 
 (h :
 ((decide ((p0.inf : Int) > 0)) = true →
 CallV Tryz.prog 159 #[.int .i64 1] V fun v V1 => ∃ r1 : Nat, v = .float .f64 r1 ∧
 R (.float .f64 r1) V1) ∧
 ((decide ((p0.inf : Int) > 0)) = false →
 (((p1.inf : Int) != 0) = true →
 CallV Tryz.prog 159 #[.int .i64 1] V fun v V2 => ∃ r2 : Nat, v = .float .f64 r2 ∧
 R (.float .f64 r2) V2) ∧
 (((p1.inf : Int) != 0) = false →
 ((decide ((p0.inf : Int) < 0)) = true →
 R (.float .f64 0) V) ∧
 ((decide ((p0.inf : Int) < 0)) = false →
 CallV Tryz.prog 91 #[p0.x.val, p0.x.val] V fun v V3 => ∃ r3 : NumV, v = r3.val ∧
 CallV Tryz.prog 91 #[p1.x.val, p1.x.val] V3 fun v V4 => ∃ r4 : NumV, v = r4.val ∧
 CallV Tryz.prog 81 #[r3.val, r4.val] V4 fun v V5 => ∃ r5 : NumV, v = r5.val ∧
 ∀ (b1 : Nat) (V6 : View), View.le V5 V6 → V6 b1 = some (List.toArray ([.int .i64 p0.inf, .bool p0.x.re.neg, p0.x.re.mag.v, .bool p0.x.im.neg, p0.x.im.mag.v, p0.x.under.v])) →
 ∀ (b2 : Nat) (V7 : View), View.le V6 V7 → V7 b2 = some (List.toArray ([.bool r5.re.neg, r5.re.mag.v, .bool r5.im.neg, r5.im.mag.v, r5.under.v])) →
 ∀ (b3 : Nat) (V8 : View), View.le V7 V8 → V8 b3 = some (List.toArray ([.func (.func 215) #[] #[.pointer (some (Addr.mk b1 0 none)), .pointer (some (Addr.mk b2 0 none))]])) →
 CallV Tryz.prog 217 #[(Fn1.mk (some (Addr.mk b3 0 none))).val 218] V8 fun v V9 => ∃ r6 : Nat, v = .float .f64 r6 ∧
 (p2 = true →
 ∃ x1 : Fn2, View.load V9 (some (Addr.mk b3 0 none)) = some (x1.val 215) ∧
 CallV Tryz.prog 215 #[.float .f64 r6, .pointer x1.p0, .pointer x1.p1] V9 fun v V10 => ∃ r7 : Int, v = .int .i64 r7 ∧
 (((r7 : Int) != 0) = true →
 CallV Tryz.prog 159 #[.int .i64 1] V10 fun v V11 => ∃ r8 : Nat, v = .float .f64 r8 ∧
 CallV Tryz.prog 219 #[.float .f64 r6, .float .f64 r8] V11 fun v V12 => ∃ r9 : Nat, v = .float .f64 r9 ∧
 R (.float .f64 r9) V12) ∧
 (((r7 : Int) != 0) = false →
 R (.float .f64 r6) V10)) ∧
 (p2 = false →
 R (.float .f64 r6) V9))))) :
 CallV Tryz.prog 146 #[p0.val, p1.val, .bool p2] V R :=
 calls_of_vc (Shp := Shp) hmixed Tryz.func146 (c := Tryz.f146.body.getD .skip) (args := [p0.val, p1.val, .bool p2]) (by kernel_rfl)
 (.seq (.reg [A 3 3, A 4 3, A 6 2]) (.seq (.block (.seq (.reg [A 11 7, A 3 4, A 13 0, ⟨14, 2, true⟩, A 15 7, A 4 4, A 17 0, A 18 20, A 10 2]) (.cond (.seq (.reg [A 19 10, A 6 2]) .leaf) (.seq (.reg [A 21 7, A 3 4, A 23 0, A 20 2]) (.cond (.seq (.reg [A 6 2]) .leaf) .leaf))))) (.seq (.draw [(0, A 24 7), (1, A 3 4), (2, A 26 7), (3, A 3 4), (5, A 29 7), (6, A 4 4), (7, A 31 7), (8, A 4 4), (11, A 7 3), (4, A 28 10), (9, A 33 10), (10, A 34 10), (12, A 7 6)] [0, 1, 0, 4, 15, 0, 32, 0, 128, 511, 1023, 0, 4095]) (.seq (.pub 3 (.pub 7 (.reg [A 35 0, A 8 3, A 8 6]))) (.seq (.pub 8 (.reg [A 36 0, A 37 10, A 9 2])) (.seq (.seq (.reg [A 38 2, ⟨39, 2, true⟩, A 40 5, A 41 2, A 42 10, A 43 0, A 44 20]) (.cond (.seq (.reg [A 45 2, A 46 10, A 47 10, A 6 2]) .leaf) .leaf)) (.seq (.reg [A 48 2, A 6 2]) .leaf)))))))
 (Eq.mpr (by kernel_rfl) h)

theorem Span_Sqrt_vc (p0 : SpV) (V : View) (R : Value → View → Prop) 
 (h :
 ((FloatKind.f64.format.order p0.lo 0 == some .lt) = true →
 R (.tuple #[(SpV.mk 0 0).val, .int .i64 1]) V) ∧
 ((FloatKind.f64.format.order p0.lo 0 == some .lt) = false →
 CallV Tryz.prog 99 #[p0.val] V fun v V1 => ∃ r1 : SetV, v = r1.val ∧
 CallV Tryz.prog 146 #[r1.lo.val, (BdV.mk 0 (NumV.mk (WhV.mk false (Sl.mk none 0 0)) (WhV.mk false (Sl.mk none 0 0)) (Sl.mk none 0 0))).val, .bool false] V1 fun v V2 => ∃ r2 : Nat, v = .float .f64 r2 ∧
 CallV Tryz.prog 146 #[r1.hi.val, (BdV.mk 0 (NumV.mk (WhV.mk false (Sl.mk none 0 0)) (WhV.mk false (Sl.mk none 0 0)) (Sl.mk none 0 0))).val, .bool true] V2 fun v V3 => ∃ r3 : Nat, v = .float .f64 r3 ∧
 R (.tuple #[(SpV.mk r2 r3).val, .int .i64 0]) V3)) :
 CallV Tryz.prog 67 #[p0.val] V R :=
 calls_of_vc (Shp := Shp) hmixed Tryz.func67 (c := Tryz.f67.body.getD .skip) (args := [p0.val]) (by kernel_rfl)
 (.seq (.reg [A 1 3, A 2 3, A 3 2]) (.seq (.seq (.reg [A 5 7, A 1 4, A 7 0]) (.cond (.seq (.reg [A 8 0, A 2 6, A 3 2]) .leaf) .leaf)) (.seq (.reg [A 1 4, A 10 10, A 4 3, A 4 6]) (.seq (.draw [(0, A 11 7), (1, A 4 4), (2, A 13 0), (4, A 15 7), (5, A 4 4), (6, A 17 0), (3, A 14 10), (7, A 18 10), (8, A 19 0), (9, A 2 6), (10, A 3 2)] [0, 1, 0, 7, 0, 16, 0, 127, 255, 511, 1023]) .leaf))))
 (Eq.mpr (by kernel_rfl) h)

theorem Box_Sqrt_vc (p0 : BoxV) (V : View) (R : Value → View → Prop) 
 (h :
 CallV Tryz.prog 99 #[p0.re.val] V fun v V1 => ∃ r1 : SetV, v = r1.val ∧
 CallV Tryz.prog 99 #[p0.im.val] V1 fun v V2 => ∃ r2 : SetV, v = r2.val ∧
 CallV Tryz.prog 145 #[r2.val] V2 fun v V3 => ∃ r3 : SetV, v = r3.val ∧
 CallV Tryz.prog 146 #[r1.lo.val, r3.lo.val, .bool false] V3 fun v V4 => ∃ r4 : Nat, v = .float .f64 r4 ∧
 CallV Tryz.prog 146 #[r1.hi.val, r3.hi.val, .bool true] V4 fun v V5 => ∃ r5 : Nat, v = .float .f64 r5 ∧
 ((FloatKind.f64.format.order p0.im.lo 0 == some .lt) = true →
 CallV Tryz.prog 147 #[r1.lo.val] V5 fun v V6 => ∃ r6 : BdV, v = r6.val ∧
 CallV Tryz.prog 147 #[r2.lo.val] V6 fun v V7 => ∃ r7 : BdV, v = r7.val ∧
 CallV Tryz.prog 146 #[r6.val, r7.val, .bool true] V7 fun v V8 => ∃ r8 : Nat, v = .float .f64 r8 ∧
 ((FloatKind.f64.format.order p0.im.hi 0 == some .lt) = true →
 CallV Tryz.prog 147 #[r1.hi.val] V8 fun v V9 => ∃ r9 : BdV, v = r9.val ∧
 CallV Tryz.prog 147 #[r2.hi.val] V9 fun v V10 => ∃ r10 : BdV, v = r10.val ∧
 CallV Tryz.prog 146 #[r9.val, r10.val, .bool false] V10 fun v V11 => ∃ r11 : Nat, v = .float .f64 r11 ∧
 CallV Tryz.prog 148 #[.float .f64 (Op.negFloat .f64 r8)] V11 fun v V12 => ∃ r12 : Nat, v = .float .f64 r12 ∧
 CallV Tryz.prog 148 #[.float .f64 (Op.negFloat .f64 r11)] V12 fun v V13 => ∃ r13 : Nat, v = .float .f64 r13 ∧
 R (.tuple #[(BoxV.mk (SpV.mk r4 r5) (SpV.mk r12 r13)).val, .bool true]) V13) ∧
 ((FloatKind.f64.format.order p0.im.hi 0 == some .lt) = false →
 CallV Tryz.prog 147 #[r1.lo.val] V8 fun v V14 => ∃ r14 : BdV, v = r14.val ∧
 CallV Tryz.prog 146 #[r14.val, r2.hi.val, .bool true] V14 fun v V15 => ∃ r15 : Nat, v = .float .f64 r15 ∧
 CallV Tryz.prog 148 #[.float .f64 (Op.negFloat .f64 r8)] V15 fun v V16 => ∃ r16 : Nat, v = .float .f64 r16 ∧
 CallV Tryz.prog 148 #[.float .f64 r15] V16 fun v V17 => ∃ r17 : Nat, v = .float .f64 r17 ∧
 R (.tuple #[(BoxV.mk (SpV.mk r4 r5) (SpV.mk r16 r17)).val, .bool true]) V17)) ∧
 ((FloatKind.f64.format.order p0.im.lo 0 == some .lt) = false →
 CallV Tryz.prog 147 #[r1.hi.val] V5 fun v V18 => ∃ r18 : BdV, v = r18.val ∧
 CallV Tryz.prog 146 #[r18.val, r2.lo.val, .bool false] V18 fun v V19 => ∃ r19 : Nat, v = .float .f64 r19 ∧
 ((FloatKind.f64.format.order p0.im.hi 0 == some .lt) = true →
 CallV Tryz.prog 147 #[r1.hi.val] V19 fun v V20 => ∃ r20 : BdV, v = r20.val ∧
 CallV Tryz.prog 147 #[r2.hi.val] V20 fun v V21 => ∃ r21 : BdV, v = r21.val ∧
 CallV Tryz.prog 146 #[r20.val, r21.val, .bool false] V21 fun v V22 => ∃ r22 : Nat, v = .float .f64 r22 ∧
 CallV Tryz.prog 148 #[.float .f64 r19] V22 fun v V23 => ∃ r23 : Nat, v = .float .f64 r23 ∧
 CallV Tryz.prog 148 #[.float .f64 (Op.negFloat .f64 r22)] V23 fun v V24 => ∃ r24 : Nat, v = .float .f64 r24 ∧
 R (.tuple #[(BoxV.mk (SpV.mk r4 r5) (SpV.mk r23 r24)).val, .bool true]) V24) ∧
 ((FloatKind.f64.format.order p0.im.hi 0 == some .lt) = false →
 CallV Tryz.prog 147 #[r1.lo.val] V19 fun v V25 => ∃ r25 : BdV, v = r25.val ∧
 CallV Tryz.prog 146 #[r25.val, r2.hi.val, .bool true] V25 fun v V26 => ∃ r26 : Nat, v = .float .f64 r26 ∧
 CallV Tryz.prog 148 #[.float .f64 r19] V26 fun v V27 => ∃ r27 : Nat, v = .float .f64 r27 ∧
 CallV Tryz.prog 148 #[.float .f64 r26] V27 fun v V28 => ∃ r28 : Nat, v = .float .f64 r28 ∧
 R (.tuple #[(BoxV.mk (SpV.mk r4 r5) (SpV.mk r27 r28)).val, .bool true]) V28))) :
 CallV Tryz.prog 61 #[p0.val] V R :=
 calls_of_vc (Shp := Shp) hmixed Tryz.func61 (c := Tryz.f61.body.getD .skip) (args := [p0.val]) (by kernel_rfl)
 (.seq (.reg [A 1 3, A 2 3, A 3 9]) (.seq (.draw [(0, A 9 7), (1, A 1 4), (3, A 12 7), (4, A 1 4), (6, A 4 3), (7, A 5 3), (2, A 11 10), (5, A 14 10), (8, A 4 6), (9, A 5 6)] [0, 1, 3, 0, 8, 31, 0, 0, 255, 511]) (.seq (.reg [A 5 4, A 16 10, A 6 3, A 6 6]) (.seq (.draw [(0, A 17 7), (1, A 4 4), (2, A 19 7), (3, A 6 4), (5, A 22 7), (6, A 4 4), (7, A 24 7), (8, A 6 4), (11, A 7 3), (4, A 21 10), (9, A 26 10), (10, A 27 0), (12, A 7 6)] [0, 1, 0, 4, 15, 0, 32, 0, 128, 511, 1023, 0, 4095]) (.seq (.reg [A 8 3]) (.seq (.seq (.reg [A 28 7, A 29 7, A 1 4, A 31 0]) (.cond (.draw [(0, A 32 7), (1, A 4 4), (3, A 35 7), (4, A 5 4), (2, A 34 10), (5, A 37 10), (6, A 38 10), (7, A 39 0), (8, A 40 7), (9, A 8 6)] [0, 1, 3, 0, 8, 31, 63, 127, 255, 511]) (.draw [(0, A 41 7), (1, A 4 4), (3, A 44 7), (4, A 5 4), (2, A 43 10), (5, A 46 10), (6, A 47 7), (7, A 8 6)] [0, 1, 3, 0, 8, 31, 63, 127]))) (.seq (.seq (.reg [A 48 7, A 49 7, A 1 4, A 51 0]) (.cond (.draw [(0, A 52 7), (1, A 4 4), (3, A 55 7), (4, A 5 4), (2, A 54 10), (5, A 57 10), (6, A 58 10), (7, A 59 0), (8, A 60 7), (9, A 8 6)] [0, 1, 3, 0, 8, 31, 63, 127, 255, 511]) (.draw [(0, A 61 7), (1, A 4 4), (3, A 64 7), (4, A 5 4), (2, A 63 10), (5, A 66 10), (6, A 67 7), (7, A 8 6)] [0, 1, 3, 0, 8, 31, 63, 127]))) (.seq (.draw [(0, A 7 4), (1, A 69 7), (2, A 8 4), (4, A 72 7), (5, A 8 4), (3, A 71 10), (6, A 74 10), (7, A 75 0), (8, A 76 0), (9, A 2 6), (10, A 3 9)] [0, 0, 2, 6, 0, 16, 62, 126, 255, 511, 1023]) .leaf))))))))
 (Eq.mpr (by kernel_rfl) h)

end Go.Proofs.YtkibfmnkkiakoaaGreat
