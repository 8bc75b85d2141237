/- Part. -/
import Derived.Test.YtblaagclfalaaaaGreatVcT
namespace Go.Vc
open Go Go.RowKit
structure S0n where
 rows:Int
 cols:Int
 dx:NumV
 dy:NumV
 lam:NumV
def S0n.val(a:S0n):Value := .agg #[.int .i64 a.rows,.int .i64 a.cols,.bool a.dx.re.neg,a.dx.re.mag.v,.bool a.dx.im.neg,a.dx.im.mag.v,a.dx.under.v,.bool a.dy.re.neg,a.dy.re.mag.v,.bool a.dy.im.neg,a.dy.im.mag.v,a.dy.under.v,.bool a.lam.re.neg,a.lam.re.mag.v,.bool a.lam.im.neg,a.lam.im.mag.v,a.lam.under.v]
structure G0j where
 rows:Int
 cols:Int
 dx:RatV
 dy:RatV
 lam:RatV
def G0j.val(a:G0j):Value := .agg #[.int .i64 a.rows,.int .i64 a.cols,.int .i64 a.dx.re,.int .i64 a.dx.im,.int .i64 a.dx.den,.int .i64 a.dy.re,.int .i64 a.dy.im,.int .i64 a.dy.den,.int .i64 a.lam.re,.int .i64 a.lam.im,.int .i64 a.lam.den]
structure Fn5 where
 p0:Option Addr
 p1:Option Addr
 p2:Option Addr
 p3:Option Addr
 p4:Option Addr
def Fn5.val(x:Fn5)(f:FuncId):Value := .func (.func f) #[] #[.pointer x.p0,.pointer x.p1,.pointer x.p2,.pointer x.p3,.pointer x.p4]
