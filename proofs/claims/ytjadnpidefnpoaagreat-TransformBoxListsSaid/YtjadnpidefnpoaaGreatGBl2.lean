/- Part. -/
import Derived.Test.YtjadnpidefnpoaaGreatGBx4
set_option maxRecDepth 100000
set_option maxHeartbeats 4000000
namespace Go.Proofs.YtjadnpidefnpoaaGreat
open Go Go.Vc Go.Proofs
open Go.Proofs.Tryz (prog)
open Go.IntKind (i8 i16 i32 i64 u8 u16 u32 u64)
theorem s0y(p0:BoxV)(p1:BoxV)(V:View)(R:RT) (h:a00 prog 181 #[p0.val] V λv V1=>∃r1:CxV,v = .complex .f64 r1.re r1.im/\a00 prog 180 #[.float .f64 r1.re,.float .f64 p1.re.lo] V1 λv V2=>∃r2:Bool,v = .bool r2/\(r2=true->a00 prog 181 #[p0.val] V2 λv V3=>∃r3:CxV,v = .complex .f64 r3.re r3.im/\a00 prog 180 #[.float .f64 r3.im,.float .f64 p1.im.lo] V3 λv V4=>∃r4:Bool,v = .bool r4/\(r4=true->a00 prog 182 #[p0.val] V4 λv V5=>∃r5:CxV,v = .complex .f64 r5.re r5.im/\a00 prog 180 #[.float .f64 r5.re,.float .f64 p1.re.hi] V5 λv V6=>∃r6:Bool,v = .bool r6/\(r6=true->a00 prog 182 #[p0.val] V6 λv V7=>∃r7:CxV,v = .complex .f64 r7.re r7.im/\a00 prog 180 #[.float .f64 r7.im,.float .f64 p1.im.hi] V7 λv V8=>∃r8:Bool,v = .bool r8/\R (.bool r8) V8)/\(r6=false->R (.bool false) V6))/\(r4=false->R (.bool false) V4))/\(r2=false->R (.bool false) V2)):a00 prog 63 #[p0.val,p1.val] V R :=
 cv9 [p0.val,p1.val] Tryz.func63 (by kernel_rfl) (.seq (rG [67,99,137]) (.seq (.draw [(0,A 2 4),(3,A 8 7),(4,A 9 7),(5,A 3 4),(1,A 6 10),(2,A 7 0),(6,A 11 10),(7,⟨12,2,true⟩),(8,A 2 4),(11,A 16 7),(12,A 17 7),(13,A 3 4),(9,A 14 10),(10,A 15 0),(14,A 19 10),(15,A 20 20),(16,⟨21,2,true⟩),(17,A 2 4),(20,A 25 7),(21,A 26 7),(22,A 3 4),(18,A 23 10),(19,A 24 0),(23,A 28 10),(24,A 29 20),(25,⟨30,2,true⟩),(26,A 2 4),(29,A 34 7),(30,A 35 7),(31,A 3 4),(27,A 32 10),(28,A 33 0),(32,A 37 10),(33,A 38 20),(34,A 4 2)] [0,1,3,0,8,24,63,127,255,511,1023,255,2303,6399,16383,32767,65535,131071,262143,524287,131071,1179647,3276799,8388607,16777215,33554431,67108863,134217727,268435455,67108863,603979775,1677721599,4294967295,8589934591,17179869183]) .leaf)) (Eq.mpr (by kernel_rfl) h)
