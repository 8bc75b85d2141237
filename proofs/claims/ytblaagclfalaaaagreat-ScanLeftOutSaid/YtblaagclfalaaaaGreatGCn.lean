/- Part. -/
import Derived.Test.YtblaagclfalaaaaGreatGLd
set_option maxRecDepth 100000
set_option maxHeartbeats 4000000
namespace Go.Proofs.YtblaagclfalaaaaGreat
open Go Go.Vc Go.Proofs
open Go.Proofs.Tryz (prog)
open Go.IntKind (i8 i16 i32 i64 u8 u16 u32 u64)
structure z00 where(t5l t5c:Nat)(t15:Int)(o0:View)(o5:List Value)
structure A00 where(t14:Int)
def Z02(p0:s00)(c:A00)(w x:z00):Prop:=(Q1 (.own 1 0)/\E2 (.lst 5 w.t5l w.t5c) (.lst 5 x.t5l x.t5c)/\Q1 (.val (.int .i64 c.t14))/\E2 (.val (.int .i64 w.t15)) (.val (.int .i64 x.t15))/\True)/\(O2 ⟨1,.reg w.o0⟩ ⟨1,.reg x.o0⟩/\O2 ⟨136,.fixed [.val p0.rows.v]⟩ ⟨136,.fixed [.val p0.rows.v]⟩/\O2 ⟨147,.list w.o5⟩ ⟨147,.list x.o5⟩/\True)
def t02(pm:View)(p0:s00)(V:View)(R:IT Value View)(I0:IT A00 z00)(E0:IT A00 z00)(B0:BT A00 z00):Prop:=a00 prog 164 #[p0.val] V λv V1=>∃(r1:Int) (r2:Int),v = .tuple #[.int .i64 r1,.int .i64 r2]/\E0 (A00.mk r1) (z00.mk 0 0 0 pm ([]:List Value)) V1/\(∀(x2:z00) (V2:View),View.le V1 V2->I0 (A00.mk r1) x2 V2->((decide ((x2.t15:Int)<r1))=true->O02 prog 187 #[p0.val,.int .i64 x2.t15] x2.o0 V2 λv m1 V3=>∃(r3:Sl) (r4:Int),v = .tuple #[r3.v,.int .i64 r4]/\∀(b1:Nat) (V4:View),View.le V3 V4->View.Fin V4->V4 b1=some #[r3.v]->∃(l1:List Value) (l2:List Value),C03 1 x2.t5l x2.t5c x2.o5 l1/\View.has V4 (some (Addr.mk b1 0 none)) l2/\List.length l2=1*1/\(∀v∈l2,Value.oneCell' v=true)/\x2.t5l+1<=maxLen/\(x2.t5l+1)*24<=140737488355328/\∀(c1:Nat) (l3:List Value),C03 1 (x2.t5l+1) c1 l3 (l1++l2)->B0 (A00.mk r1) (z00.mk (x2.t5l+1) c1 (i64.wrap (x2.t15+1)) m1 l3) V4 x2 V2)/\((decide ((x2.t15:Int)<r1))=false->(x2.o5≠[])/\∀(b2:Nat),x2.o0 b2=none->V2 b2=none->R ((Sl.mk (lstA b2 x2.t5c) x2.t5l x2.t5c).v) (j00 x2.o0 b2 (List.toArray x2.o5)) V2))
theorem m06(pm:View)(p0:s00)(V:View)(R:IT Value View)(I0:IT A00 z00)(J0:JT A00 z00){X:Prop}(e:t02 pm p0 V R I0 I0 (λc w V x U=>I0 c w V/\J0 c w V<J0 c x U)=X)(h:X):O02 prog 74 #[p0.val] pm V R :=
 F05 (Shp:=Shp) (r:=0) (m:=pm) t00 Tryz.func74 (c:=Tryz.f74.body.getD .skip) (args:=[p0.val]) (by kernel_rfl) (by kernel_rfl) (.seq (rG [35,66]) (.seq (rG [36,362,290,384,416,98,130]) (.seq (rG [162]) (.seq (.seq (.adopt 5 5 147 (rG [450,482])) (.block (.loop A00 z00 (λσ=>A00.mk (gInt (gTm σ 14))) (λc x=>{ tm:=spT 30 0 [(1,.own 1 0),(5,.lst 5 x.t5l x.t5c),(14,.val (.int .i64 c.t14)),(15,.val (.int .i64 x.t15))],own:=spO 30 0 [(0,⟨1,.reg x.o0⟩),(1,⟨136,.fixed [.val p0.rows.v]⟩),(5,⟨147,.list x.o5⟩)] }) I0 J0 (.seq (rG [512]) (.seq (.cond .leaf .leaf) (.seq (.block (.seq (rG [546,194]) (.seq (rG [36,642,24,578,704,736,226,258]) (rG [770,802,843,173,162])))) (rG [896,482]))))))) (.seq (rG [930,66]) (.giveR 5 0 .leaf)))))) (Eq.mpr (by kernel_rfl) (show t02 pm p0 V R I0 (λc w V=>∃x,Z02 p0 c w x/\I0 c x V) (λc w V y U=>∃x,Z02 p0 c w x/\I0 c x V/\J0 c x V<J0 c y U)from by
 have h:=Eq.mpr e h; unfold t02 at h ⊢; revert h; repeat' first|with_reducible exact id|refine And.imp ?_ ?_|refine forall_imp λ_ => ?_|refine Exists.imp λ_ => ?_|refine cvI λ_ _ => ?_|exact λh=>⟨_,by(repeat' apply And.intro)<;>first|rfl|trivial,h⟩))
theorem A08:type_of% (λpm p0 V R I0 J0=>m06 pm p0 V R I0 J0 (t02.eq_1 ..)):=λpm p0 V R I0 J0=>m06 pm p0 V R I0 J0 (t02.eq_1 ..)
