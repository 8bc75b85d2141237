/- Part. -/
import Derived.Test.YtblaagclfalaaaaGreatGSp
set_option maxRecDepth 100000
set_option maxHeartbeats 4000000
namespace Go.Proofs.YtblaagclfalaaaaGreat
open Go Go.Vc Go.Proofs
open Go.Proofs.Tryz (prog)
open Go.IntKind (i8 i16 i32 i64 u8 u16 u32 u64)
structure l00 where(t5l t5c:Nat)(t15:Int)(o5:List Value)
structure m00 where(t14:Int)
def c02(p0:B05)(c:m00)(w x:l00):Prop:=(Q1 (.own 1 0)/\E2 (.lst 5 w.t5l w.t5c) (.lst 5 x.t5l x.t5c)/\Q1 (.val (.int .i64 c.t14))/\E2 (.val (.int .i64 w.t15)) (.val (.int .i64 x.t15))/\True)/\(O2 ⟨123,.fixed [.val p0.rows.v]⟩ ⟨123,.fixed [.val p0.rows.v]⟩/\O2 ⟨129,.list w.o5⟩ ⟨129,.list x.o5⟩/\True)
def C01(p0:B05)(V:View)(R:RT)(I0:IT m00 l00)(E0:IT m00 l00)(B0:BT m00 l00):Prop:=a00 prog 161 #[p0.val] V λv V1=>∃(r1:Int) (r2:Int),v = .tuple #[.int .i64 r1,.int .i64 r2]/\E0 (m00.mk r1) (l00.mk 0 0 0 ([]:List Value)) V1/\(∀(x2:l00) (V2:View),View.le V1 V2->I0 (m00.mk r1) x2 V2->((decide ((x2.t15:Int)<r1))=true->a00 prog 162 #[p0.val,.int .i64 x2.t15] V2 λv V3=>∃(r3:Sl) (r4:Int),v = .tuple #[r3.v,.int .i64 r4]/\∀(b1:Nat) (V4:View),View.le V3 V4->View.Fin V4->V4 b1=some #[r3.v]->∃(l1:List Value) (l2:List Value),K02 1 x2.t5l x2.t5c x2.o5 l1/\View.has V4 (some (Addr.mk b1 0 none)) l2/\List.length l2=1*1/\(∀v∈l2,Value.oneCell' v=true)/\x2.t5l+1<=maxLen/\(x2.t5l+1)*24<=140737488355328/\∀(c1:Nat) (l3:List Value),K02 1 (x2.t5l+1) c1 l3 (l1++l2)->B0 (m00.mk r1) (l00.mk (x2.t5l+1) c1 (i64.wrap (x2.t15+1)) l3) V4 x2 V2)/\((decide ((x2.t15:Int)<r1))=false->∀(b2:Nat) (V5:View),View.le V2 V5->(x2.o5≠[]->V5 b2=some (List.toArray x2.o5))->R ((Sl.mk (lstA b2 x2.t5c) x2.t5l x2.t5c).v) V5))
theorem C04(p0:B05)(V:View)(R:RT)(I0:IT m00 l00)(J0:JT m00 l00){X:Prop}(e:C01 p0 V R I0 I0 (λc w V x U=>I0 c w V/\J0 c w V<J0 c x U)=X)(h:X):a00 prog 58 #[p0.val] V R :=
 cv9 [p0.val] Tryz.func58 (by kernel_rfl) (.seq (rG [35,66]) (.seq (rG [36,362,290,384,416,98,130]) (.seq (rG [162]) (.seq (.seq (.adopt 5 5 129 (rG [450,482])) (.block (.loop m00 l00 (λσ=>m00.mk (gInt (gTm σ 14))) (λc x=>{ tm:=spT 30 0 [(1,.own 1 0),(5,.lst 5 x.t5l x.t5c),(14,.val (.int .i64 c.t14)),(15,.val (.int .i64 x.t15))],own:=spO 30 0 [(1,⟨123,.fixed [.val p0.rows.v]⟩),(5,⟨129,.list x.o5⟩)] }) I0 J0 (.seq (rG [512]) (.seq (.cond .leaf .leaf) (.seq (.block (.seq (rG [546,194]) (.seq (rG [36,642,682,578,704,736,226,258]) (rG [770,802,843,173,162])))) (rG [896,482]))))))) (.seq (rG [930,66]) (.pub 5 .leaf)))))) (Eq.mpr (by kernel_rfl) (show C01 p0 V R I0 (λc w V=>∃x,c02 p0 c w x/\I0 c x V) (λc w V y U=>∃x,c02 p0 c w x/\I0 c x V/\J0 c x V<J0 c y U)from by
 have h:=Eq.mpr e h; unfold C01 at h ⊢; revert h; repeat' first|with_reducible exact id|refine And.imp ?_ ?_|refine forall_imp λ_ => ?_|refine Exists.imp λ_ => ?_|refine cvI λ_ _ => ?_|exact λh=>⟨_,by(repeat' apply And.intro)<;>first|rfl|trivial,h⟩))
theorem T06:type_of% (λp0 V R I0 J0=>C04 p0 V R I0 J0 (C01.eq_1 ..)):=λp0 V R I0 J0=>C04 p0 V R I0 J0 (C01.eq_1 ..)
