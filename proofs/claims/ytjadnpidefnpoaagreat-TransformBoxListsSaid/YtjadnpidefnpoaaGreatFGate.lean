/- Part. -/
import Derived.Test.YtjadnpidefnpoaaGreatGGt
set_option maxRecDepth 100000
set_option maxHeartbeats 4000000
namespace Go.Proofs.YtjadnpidefnpoaaGreat
open Go Go.Vc Go.Proofs
open Go.Proofs.Tryz (prog)
open Go.IntKind (i8 i16 i32 i64 u8 u16 u32 u64)
structure E01 where(t11:Int)(o8:List Value)
def B06(p0:j02)(p1:Int)(_c:Unit)(w x:E01):Prop:=(Q1 (.val (.int .i64 p1))/\Q1 (.own 2 0)/\Q1 (.osl 8 0 (Int.toNat p1) (Int.toNat p1))/\Q1 (.val (.int .i64 p0.count))/\E2 (.val (.int .i64 w.t11)) (.val (.int .i64 x.t11))/\True)/\(O2 ⟨27,.fixed [.val (.int .i64 p0.from_),.val (.int .i64 p0.count)]⟩ ⟨27,.fixed [.val (.int .i64 p0.from_),.val (.int .i64 p0.count)]⟩/\O2 ⟨4,.dyn w.o8⟩ ⟨4,.dyn x.o8⟩/\True)
def J05(p0:j02)(p1:Int)(V:View)(R:RT)(I0:IT Unit E01)(E0:IT Unit E01)(B0:BT Unit E01):Prop:=((0:Int)<=p1/\(p1:Int)<=p1/\(1:Int)*p1<=281474976710656/\(p1:Int)<=9223372036854775807)/\E0 () (E01.mk 0 ((List.replicate (Int.toNat p1) [Value.bool false]).flatten)) V/\(∀(x2:E01) (V1:View),View.le V V1->I0 () x2 V1->((decide ((x2.t11:Int)<p0.count))=true->(p1:Int)≠0/\((0:Int)<=(Int.tmod (i64.wrap (p0.from_+x2.t11)) p1)/\((Int.tmod (i64.wrap (p0.from_+x2.t11)) p1):Int)<(Int.toNat p1:Nat)) /\
 0+Int.toNat (Int.tmod (i64.wrap (p0.from_+x2.t11)) p1)*1+1<=List.length x2.o8/\B0 () (E01.mk (i64.wrap (x2.t11+1)) (List.set x2.o8 (0+Int.toNat (Int.tmod (i64.wrap (p0.from_+x2.t11)) p1)*1) (.bool true))) V1 x2 V1)/\((decide ((x2.t11:Int)<p0.count))=false->∀(b1:Nat) (V2:View),View.le V1 V2->V2 b1=some (List.toArray x2.o8)->R ((Sl.mk (some (Addr.mk b1 0 none)) (Int.toNat p1) (Int.toNat p1)).v) V2))
theorem S0b(p0:j02)(p1:Int)(V:View)(R:RT)(I0:IT Unit E01)(J0:JT Unit E01){X:Prop}(e:J05 p0 p1 V R I0 I0 (λc w V x U=>I0 c w V/\J0 c w V<J0 c x U)=X)(h:X):a00 prog 169 #[p0.val,.int .i64 p1] V R :=
 cv9 [p0.val,.int .i64 p1] Tryz.func169 (by kernel_rfl) (.seq (rG [67,130]) (.seq (rG [226,259,162]) (.seq (.seq (rG [295,68,354]) (.block (.loop Unit E01 (λ_=>()) (λc x=>{ tm:=spT 24 0 [(1,.val (.int .i64 p1)),(2,.own 2 0),(5,.osl 8 0 (Int.toNat p1) (Int.toNat p1)),(10,.val (.int .i64 p0.count)),(11,.val (.int .i64 x.t11))],own:=spO 24 0 [(2,⟨27,.fixed [.val (.int .i64 p0.from_),.val (.int .i64 p0.count)]⟩),(8,⟨4,.dyn x.o8⟩)] }) I0 J0 (.seq (rG [384]) (.seq (.cond .leaf .leaf) (.seq (.block (.seq (rG [418,194]) (rG [450,487,68,546,576,610,652,679,262]))) (rG [704,354]))))))) (.seq (rG [738,130]) (.pub 8 .leaf))))) (Eq.mpr (by kernel_rfl) (show J05 p0 p1 V R I0 (λc w V=>∃x,B06 p0 p1 c w x/\I0 c x V) (λc w V y U=>∃x,B06 p0 p1 c w x/\I0 c x V/\J0 c x V<J0 c y U)from by
 have h:=Eq.mpr e h; unfold J05 at h ⊢; revert h; repeat' first|with_reducible exact id|refine And.imp ?_ ?_|refine forall_imp λ_ => ?_|refine Exists.imp λ_ => ?_|refine cvI λ_ _ => ?_|exact λh=>⟨_,by(repeat' apply And.intro)<;>first|rfl|trivial,h⟩))
theorem l0h:type_of% (λp0 p1 V R I0 J0=>S0b p0 p1 V R I0 J0 (J05.eq_1 ..)):=λp0 p1 V R I0 J0=>S0b p0 p1 V R I0 J0 (J05.eq_1 ..)
