/- Part. -/
import Derived.Test.YtjadnpidefnpoaaGreatGSc1
set_option maxRecDepth 100000
set_option maxHeartbeats 4000000
namespace Go.Proofs.YtjadnpidefnpoaaGreat
open Go Go.Vc Go.Proofs
open Go.Proofs.Tryz (prog)
open Go.IntKind (i8 i16 i32 i64 u8 u16 u32 u64)
theorem X0n(p0:S05)(p1:NumV)(p2:NumV)(V:View)(R:RT) (h:a00 prog 152 #[p0.val] V λv V1=>∃r1:Bool,v = .bool r1/\((!r1)=true->R (.tuple #[(M03.mk (NumV.mk (WhV.mk false (Sl.mk none 0 0)) (WhV.mk false (Sl.mk none 0 0)) (Sl.mk none 0 0)) (NumV.mk (WhV.mk false (Sl.mk none 0 0)) (WhV.mk false (Sl.mk none 0 0)) (Sl.mk none 0 0)) (NumV.mk (WhV.mk false (Sl.mk none 0 0)) (WhV.mk false (Sl.mk none 0 0)) (Sl.mk none 0 0))).val,.int .i64 1]) V1)/\((!r1)=false->a00 prog 144 #[p1.val] V1 λv V2=>∃r2:Bool,v = .bool r2/\((!r2)=true->R (.tuple #[(M03.mk (NumV.mk (WhV.mk false (Sl.mk none 0 0)) (WhV.mk false (Sl.mk none 0 0)) (Sl.mk none 0 0)) (NumV.mk (WhV.mk false (Sl.mk none 0 0)) (WhV.mk false (Sl.mk none 0 0)) (Sl.mk none 0 0)) (NumV.mk (WhV.mk false (Sl.mk none 0 0)) (WhV.mk false (Sl.mk none 0 0)) (Sl.mk none 0 0))).val,.int .i64 1]) V2)/\((!r2)=false->a00 prog 144 #[p2.val] V2 λv V3=>∃r3:Bool,v = .bool r3/\((!r3)=true->R (.tuple #[(M03.mk (NumV.mk (WhV.mk false (Sl.mk none 0 0)) (WhV.mk false (Sl.mk none 0 0)) (Sl.mk none 0 0)) (NumV.mk (WhV.mk false (Sl.mk none 0 0)) (WhV.mk false (Sl.mk none 0 0)) (Sl.mk none 0 0)) (NumV.mk (WhV.mk false (Sl.mk none 0 0)) (WhV.mk false (Sl.mk none 0 0)) (Sl.mk none 0 0))).val,.int .i64 1]) V3)/\((!r3)=false->a00 prog 153 #[p0.val,p1.val,p2.val] V3 λv V4=>∃r4:M03,v=r4.val/\R (.tuple #[r4.val,.int .i64 0]) V4)))):a00 prog 37 #[p0.val,p1.val,p2.val] V R :=
 cv9 [p0.val,p1.val,p2.val] Tryz.func37 (by kernel_rfl) (.seq (rG [99,131,163,195,226]) (.seq (.seq (.reg [A 3 4,A 9 10,A 10 20,⟨11,2,true⟩,A 4 4,A 13 10,A 14 20,A 15 20,⟨16,2,true⟩,A 5 4,A 18 10,A 19 20,A 20 20]) (.cond (.seq (rG [672,198,226]) .leaf) .leaf)) (.seq (rG [100,132,164,810,198,226]) .leaf))) (Eq.mpr (by kernel_rfl) h)
