/- Part. -/
import Derived.Test.YtblaagclfalaaaaGreatFText
set_option maxRecDepth 100000
set_option maxHeartbeats 4000000
namespace Go.Proofs.YtblaagclfalaaaaGreat
open Go Go.Vc Go.Proofs
open Go.Proofs.Tryz (prog)
open Go.IntKind (i8 i16 i32 i64 u8 u16 u32 u64)
theorem s0l(p0:NumV)(V:View)(R:RT) (h:((((p0.re.mag.len:Int):Int)==0)=true->R (.bool (((p0.im.mag.len:Int):Int)==0)) V)/\((((p0.re.mag.len:Int):Int)==0)=false->R (.bool false) V)):a00 prog 271 #[p0.val] V R :=
 cv9 [p0.val] Tryz.func271 (by kernel_rfl) (.seq (rG [35,73]) (.seq (.reg [A 3 7,A 4 7,A 1 4,A 6 0,A 7 0,⟨8,2,true⟩,A 9 7,A 10 7,A 1 4,A 12 0,A 13 0,A 14 20,A 2 2]) .leaf)) (Eq.mpr (by kernel_rfl) h)
theorem t0l(p0:NumV)(V:View)(R:RT) (h:a00 prog 272 #[p0.val] V λv V1=>∃r1:NumV,v=r1.val/\a00 prog 177 #[p0.val,r1.val] V1 λv V2=>∃r2:NumV,v=r2.val/\R (r2.val) V2):a00 prog 205 #[p0.val] V R :=
 cv9 [p0.val] Tryz.func205 (by kernel_rfl) (.seq (rG [35,67]) (.seq (.draw [(0,A 1 4),(1,A 1 4),(2,A 5 10),(3,A 6 10),(4,A 2 6)] [0,0,2,7,15]) .leaf)) (Eq.mpr (by kernel_rfl) h)
theorem t0n(p0:NumV)(p1:NumV)(V:View)(R:RT) (h:a00 prog 271 #[p1.val] V λv V1=>∃r1:Bool,v = .bool r1/\(r1=true->a00 prog 154 #[.int .i64 0] V1 λv V2=>∃r2:NumV,v=r2.val/\R (.tuple #[r2.val,.int .i64 3]) V2)/\(r1=false->a00 prog 205 #[p1.val] V1 λv V3=>∃r3:NumV,v=r3.val/\a00 prog 272 #[p1.val] V3 λv V4=>∃r4:NumV,v=r4.val/\a00 prog 177 #[p0.val,r4.val] V4 λv V5=>∃r5:NumV,v=r5.val/\a00 prog 269 #[r5.re.val,(WhV.mk false r3.under).val] V5 λv V6=>∃r6:WhV,v=r6.val/\a00 prog 269 #[r5.im.val,(WhV.mk false r3.under).val] V6 λv V7=>∃r7:WhV,v=r7.val/\a00 prog 270 #[r5.under.v,r3.re.mag.v] V7 λv V8=>∃r8:Sl,v=r8.v/\a00 prog 258 #[r6.val,r7.val,r8.v] V8 λv V9=>∃r9:NumV,v=r9.val/\R (.tuple #[r9.val,.int .i64 0]) V9)):a00 prog 176 #[p0.val,p1.val] V R :=
 cv9 [p0.val,p1.val] Tryz.func176 (by kernel_rfl) (.seq (rG [67,99,131,162]) (.seq (.seq (rG [100,330]) (.cond (.seq (rG [362,134,162]) .leaf) .leaf)) (.seq (rG [100,426,195,198]) (.seq (.draw [(0,A 2 4),(1,A 3 4),(4,A 7 3),(2,A 16 10),(3,A 17 10),(5,A 7 6)] [0,0,2,7,0,31]) (.seq (rG [583,196,640,259,262]) (.seq (.draw [(0,A 21 7),(1,A 7 4),(2,A 8 4),(4,A 25 7),(5,A 7 4),(6,A 8 4),(8,A 29 7),(9,A 7 4),(10,A 31 7),(11,A 32 7),(12,A 6 4),(3,A 24 10),(7,A 28 10),(13,A 34 10),(14,A 35 10),(15,A 4 6),(16,A 5 2)] [0,1,0,7,0,16,0,127,0,256,0,1024,3072,8191,16383,32767,65535]) .leaf)))))) (Eq.mpr (by kernel_rfl) h)
