/- Part. -/
import Derived.Test.YtjadnpidefnpoaaGreatGBl1
set_option maxRecDepth 100000
set_option maxHeartbeats 4000000
namespace Go.Proofs.YtjadnpidefnpoaaGreat
open Go Go.Vc Go.Proofs
open Go.Proofs.Tryz (prog)
open Go.IntKind (i8 i16 i32 i64 u8 u16 u32 u64)
theorem C0s(p0:Nat)(V:View)(R:RT) (h:((FloatKind.f64.format.order p0 0==some .eq)=true->R (.float .f64 0) V)/\((FloatKind.f64.format.order p0 0==some .eq)=false->R (.float .f64 p0) V)):a00 prog 311 #[.float .f64 p0] V R :=
 cv9 [.float .f64 p0] Tryz.func311 (by kernel_rfl) (.seq (rG [66]) (.seq (.seq (rG [98,128]) (.cond (.seq (rG [66]) .leaf) .leaf)) (.seq (rG [162,66]) .leaf))) (Eq.mpr (by kernel_rfl) h)
theorem D0s(p0:SpV)(V:View)(R:RT) (h:a00 prog 311 #[.float .f64 (Op.negFloat .f64 p0.hi)] V λv V1=>∃r1:Nat,v = .float .f64 r1/\a00 prog 311 #[.float .f64 (Op.negFloat .f64 p0.lo)] V1 λv V2=>∃r2:Nat,v = .float .f64 r2/\R ((SpV.mk r1 r2).val) V2):a00 prog 198 #[p0.val] V R :=
 cv9 [p0.val] Tryz.func198 (by kernel_rfl) (.seq (rG [35,67]) (.seq (.draw [(0,A 3 7),(1,A 1 4),(2,A 5 0),(4,A 7 7),(5,A 1 4),(6,A 9 0),(3,A 6 10),(7,A 10 10),(8,A 11 0),(9,A 2 6)] [0,1,3,7,0,16,48,127,255,511]) .leaf)) (Eq.mpr (by kernel_rfl) h)
theorem S0u(p0:SpV)(p1:SpV)(V:View)(R:RT) (h:(FloatKind.f64.format.order p0.lo p1.lo).isSome=true/\(FloatKind.f64.format.order p0.hi p1.hi).isSome=true/\R ((SpV.mk (fmin .f64 p0.lo p1.lo) (fmax .f64 p0.hi p1.hi)).val) V):a00 prog 256 #[p0.val,p1.val] V R :=
 cv9 [p0.val,p1.val] Tryz.func256 (by kernel_rfl) (.seq (rG [67,99,131]) (.seq (rG [167,68,231,100,300,327,68,391,100,460,480,134]) .leaf)) (Eq.mpr (by kernel_rfl) h)
theorem T0u(p0:SpV)(V:View)(R:RT) (h:a00 prog 312 #[.float .f64 p0.lo] V λv V1=>∃r1:BdV,v=r1.val/\a00 prog 312 #[.float .f64 p0.hi] V1 λv V2=>∃r2:BdV,v=r2.val/\R ((SetV.mk r1 r2).val) V2):a00 prog 200 #[p0.val] V R :=
 cv9 [p0.val] Tryz.func200 (by kernel_rfl) (.seq (rG [35,67]) (.seq (.draw [(0,A 3 7),(1,A 1 4),(3,A 6 7),(4,A 1 4),(2,A 5 10),(5,A 8 10),(6,A 9 0),(7,A 2 6)] [0,1,3,0,8,31,63,127]) .leaf)) (Eq.mpr (by kernel_rfl) h)
theorem U0u(p0:BoxV)(p1:BoxV)(V:View)(R:RT) (h:∃c1:Bool,EqAt prog 50 (p0.val) (p1.val) c1/\R (.bool c1) V):a00 prog 78 #[p0.val,p1.val] V R :=
 cv9 [p0.val,p1.val] Tryz.func78 (by kernel_rfl) (.seq (rG [67,99,137]) (.seq (rG [68,100,236,130]) .leaf)) (Eq.mpr (by kernel_rfl) h)
theorem q10(p0:BoxV)(V:View)(R:RT) (h:R (.complex .f64 (CxV.mk p0.re.lo p0.im.lo).re (CxV.mk p0.re.lo p0.im.lo).im) V):a00 prog 181 #[p0.val] V R :=
 cv9 [p0.val] Tryz.func181 (by kernel_rfl) (.seq (rG [35,66]) (.seq (rG [103,135,36,199,231,36,288,66]) .leaf)) (Eq.mpr (by kernel_rfl) h)
theorem u10(p0:BoxV)(V:View)(R:RT) (h:R (.complex .f64 (CxV.mk p0.re.hi p0.im.hi).re (CxV.mk p0.re.hi p0.im.hi).im) V):a00 prog 182 #[p0.val] V R :=
 cv9 [p0.val] Tryz.func182 (by kernel_rfl) (.seq (rG [35,66]) (.seq (rG [103,135,36,199,231,36,288,66]) .leaf)) (Eq.mpr (by kernel_rfl) h)
theorem t0y(p0:BoxV)(p1:BoxV)(V:View)(R:RT) (h:a00 prog 200 #[p0.re.val] V λv V1=>∃r1:SetV,v=r1.val/\a00 prog 200 #[p0.im.val] V1 λv V2=>∃r2:SetV,v=r2.val/\a00 prog 200 #[p1.re.val] V2 λv V3=>∃r3:SetV,v=r3.val/\a00 prog 200 #[p1.im.val] V3 λv V4=>∃r4:SetV,v=r4.val/\a00 prog 205 #[r1.val,r3.val] V4 λv V5=>∃r5:SetV,v=r5.val/\a00 prog 205 #[r2.val,r4.val] V5 λv V6=>∃r6:SetV,v=r6.val/\a00 prog 206 #[r6.val] V6 λv V7=>∃r7:SetV,v=r7.val/\a00 prog 202 #[r5.val,r7.val] V7 λv V8=>∃r8:SetV,v=r8.val/\a00 prog 203 #[r8.val] V8 λv V9=>∃r9:SpV,v=r9.val/\a00 prog 205 #[r1.val,r4.val] V9 λv V10=>∃r10:SetV,v=r10.val/\a00 prog 205 #[r2.val,r3.val] V10 λv V11=>∃r11:SetV,v=r11.val/\a00 prog 202 #[r10.val,r11.val] V11 λv V12=>∃r12:SetV,v=r12.val/\a00 prog 203 #[r12.val] V12 λv V13=>∃r13:SpV,v=r13.val/\R ((BoxV.mk r9 r13).val) V13):a00 prog 84 #[p0.val,p1.val] V R :=
 cv9 [p0.val,p1.val] Tryz.func84 (by kernel_rfl) (.seq (rG [67,99,131]) (.seq (.draw [(0,A 9 7),(1,A 2 4),(3,A 12 7),(4,A 2 4),(6,A 15 7),(7,A 3 4),(9,A 18 7),(10,A 3 4),(12,A 5 3),(13,A 6 3),(14,A 7 3),(15,A 8 3),(2,A 11 10),(5,A 14 10),(8,A 17 10),(11,A 20 10),(16,A 5 6),(17,A 6 6),(18,A 7 6),(19,A 8 6)] [0,1,3,0,8,31,0,64,255,0,512,2047,0,0,0,0,65535,131071,262143,524287]) (.seq (.draw [(0,A 5 4),(1,A 7 4),(3,A 6 4),(4,A 8 4),(9,A 5 4),(10,A 8 4),(12,A 6 4),(13,A 7 4),(2,A 23 10),(5,A 26 10),(6,A 27 10),(7,A 28 10),(8,A 29 10),(11,A 32 10),(14,A 35 10),(15,A 36 10),(16,A 37 10),(17,A 38 0),(18,A 4 6)] [0,0,3,0,0,31,63,127,255,0,0,2047,0,0,16383,32767,65535,131071,262143]) .leaf))) (Eq.mpr (by kernel_rfl) h)
theorem W0u(p0:BoxV)(V:View)(R:RT) (h:a00 prog 198 #[p0.im.val] V λv V1=>∃r1:SpV,v=r1.val/\R ((BoxV.mk p0.re r1).val) V1):a00 prog 79 #[p0.val] V R :=
 cv9 [p0.val] Tryz.func79 (by kernel_rfl) (.seq (rG [35,67]) (.seq (.draw [(0,A 3 7),(1,A 1 4),(2,A 5 7),(3,A 1 4),(4,A 7 10),(5,A 8 0),(6,A 2 6)] [0,1,0,4,12,31,63]) .leaf)) (Eq.mpr (by kernel_rfl) h)
theorem X0u(p0:BoxV)(p1:BoxV)(V:View)(R:RT) (h:a00 prog 256 #[p0.re.val,p1.re.val] V λv V1=>∃r1:SpV,v=r1.val/\a00 prog 256 #[p0.im.val,p1.im.val] V1 λv V2=>∃r2:SpV,v=r2.val/\R ((BoxV.mk r1 r2).val) V2):a00 prog 121 #[p0.val,p1.val] V R :=
 cv9 [p0.val,p1.val] Tryz.func121 (by kernel_rfl) (.seq (rG [67,99,131]) (.seq (.draw [(0,A 5 7),(1,A 2 4),(2,A 7 7),(3,A 3 4),(5,A 10 7),(6,A 2 4),(7,A 12 7),(8,A 3 4),(4,A 9 10),(9,A 14 10),(10,A 15 0),(11,A 4 6)] [0,1,0,4,15,0,32,0,128,511,1023,2047]) .leaf)) (Eq.mpr (by kernel_rfl) h)
