/- Part. -/
import Derived.Test.YtjadnpidefnpoaaGreatVcT
namespace Go.Vc
open Go Go.RowKit
structure Fn5 where
 p0:Option Addr
 p1:Option Addr
 p2:Option Addr
 p3:Option Addr
 p4:Option Addr
def Fn5.val(x:Fn5)(f:FuncId):Value := .func (.func f) #[] #[.pointer x.p0,.pointer x.p1,.pointer x.p2,.pointer x.p3,.pointer x.p4]
