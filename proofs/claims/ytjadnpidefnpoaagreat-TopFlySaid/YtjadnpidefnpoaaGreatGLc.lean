/- Part. -/
import Derived.Test.YtjadnpidefnpoaaGreatFFor
set_option maxRecDepth 100000
set_option maxHeartbeats 4000000
namespace Go.Proofs.YtjadnpidefnpoaaGreat
open Go Go.Vc Go.Proofs
open Go.Proofs.Tryz (prog)
open Go.IntKind (i8 i16 i32 i64 u8 u16 u32 u64)
theorem b0e(p0:x00)(p1:Int)(p2:Int)(V:View)(R:RT) (h:a00 prog 324 #[p0.val,.int .i64 p1,.int .i64 p2] V λv V1=>∃(r1:NumV) (r2:Int),v = .tuple #[r1.val,.int .i64 r2]/\R (r1.val) V1):a00 prog 212 #[p0.val,.int .i64 p1,.int .i64 p2] V R :=
 cv9 [p0.val,.int .i64 p1,.int .i64 p2] Tryz.func212 (by kernel_rfl) (.seq (rG [99,195]) (.seq (rG [100,354,386,426,290,448,480,227,230,258]) (.seq (rG [228,198]) .leaf))) (Eq.mpr (by kernel_rfl) h)
theorem A09(p0:x00)(p1:x00)(V:View)(R:RT) (h:a00 prog 209 #[p0.val] V λv V1=>∃(r1:Int) (r2:Int),v = .tuple #[.int .i64 r1,.int .i64 r2]/\a00 prog 209 #[p1.val] V1 λv V2=>∃(r3:Int) (r4:Int),v = .tuple #[.int .i64 r3,.int .i64 r4]/\(((r1:Int)==r3)=true->R (.bool ((r2:Int)==r4)) V2)/\(((r1:Int)==r3)=false->R (.bool false) V2)):a00 prog 224 #[p0.val,p1.val] V R :=
 cv9 [p0.val,p1.val] Tryz.func224 (by kernel_rfl) (.seq (rG [67,99,137]) (.seq (rG [68,362,290,384,416,162,194]) (.seq (rG [100,522,450,544,576,226,258]) (.seq (.reg [A 19 2,A 20 2,A 21 0,⟨22,2,true⟩,A 23 2,A 24 2,A 25 0,A 26 20,A 4 2]) .leaf)))) (Eq.mpr (by kernel_rfl) h)
