/- Part. -/
import Derived.Test.YtjadnpidefnpoaaGreatVcH
namespace Go.Vc
open Go Go.RowKit
structure Sl where
 a:Option Addr
 len:Nat
 cap:Nat
def Sl.v(s:Sl):Value := .slice s.a s.len s.cap
structure CxV where
 re:Nat
 im:Nat
def CxV.val(x:CxV):Value := .complex .f64 x.re x.im
structure WhV where
 neg:Bool
 mag:Sl
def WhV.val(x:WhV):Value := .agg #[.bool x.neg,x.mag.v]
structure NumV where
 re:WhV
 im:WhV
 under:Sl
def NumV.val(x:NumV):Value := .agg #[.bool x.re.neg,x.re.mag.v,.bool x.im.neg,x.im.mag.v,x.under.v]
structure BdV where
 inf:Int
 x:NumV
def BdV.val(b:BdV):Value := .agg #[.int .i64 b.inf,.bool b.x.re.neg,b.x.re.mag.v,.bool b.x.im.neg,b.x.im.mag.v,b.x.under.v]
structure SetV where
 lo:BdV
 hi:BdV
def SetV.val(s:SetV):Value := .agg #[.int .i64 s.lo.inf,.bool s.lo.x.re.neg,s.lo.x.re.mag.v,.bool s.lo.x.im.neg,s.lo.x.im.mag.v,s.lo.x.under.v,
 .int .i64 s.hi.inf,.bool s.hi.x.re.neg,s.hi.x.re.mag.v,.bool s.hi.x.im.neg,s.hi.x.im.mag.v,s.hi.x.under.v]
structure SpV where
 lo:Nat
 hi:Nat
def SpV.val(s:SpV):Value := .agg #[.float .f64 s.lo,.float .f64 s.hi]
structure BoxV where
 re:SpV
 im:SpV
def BoxV.val(b:BoxV):Value := .agg #[.float .f64 b.re.lo,.float .f64 b.re.hi,.float .f64 b.im.lo,.float .f64 b.im.hi]
structure RatV where
 re:Int
 im:Int
 den:Int
def RatV.val(r:RatV):Value := .agg #[.int .i64 r.re,.int .i64 r.im,.int .i64 r.den]
structure w0c where
 size:Int
 low:Int
 top:Int
def w0c.val(x:w0c):Value := .agg #[.int .i64 x.size,.int .i64 x.low,.int .i64 x.top]
structure ArcV where
 from_:RatV
 to_:RatV
 by_:RatV
 whole:Int
def ArcV.val(x:ArcV):Value := .agg #[.int .i64 x.from_.re,.int .i64 x.from_.im,.int .i64 x.from_.den,.int .i64 x.to_.re,.int .i64 x.to_.im,.int .i64 x.to_.den,
 .int .i64 x.by_.re,.int .i64 x.by_.im,.int .i64 x.by_.den,.int .i8 x.whole]
structure P0z where
 from_:Int
 count:Int
def P0z.val(x:P0z):Value := .agg #[.int .i64 x.from_,.int .i64 x.count]
structure x00 where
 rows:Sl
def x00.val(x:x00):Value := .agg #[x.rows.v]
structure Fn0 where
def Fn0.val(_:Fn0)(f:FuncId):Value := .func (.func f) #[] #[]
structure Fn1 where
 p0:Option Addr
def Fn1.val(x:Fn1)(f:FuncId):Value := .func (.func f) #[] #[.pointer x.p0]
structure Fn2 where
 p0:Option Addr
 p1:Option Addr
def Fn2.val(x:Fn2)(f:FuncId):Value := .func (.func f) #[] #[.pointer x.p0,.pointer x.p1]
