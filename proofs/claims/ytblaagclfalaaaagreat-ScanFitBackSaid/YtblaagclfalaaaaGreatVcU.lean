/- Part. -/
import Derived.Test.YtblaagclfalaaaaGreatVcT
namespace Go.Vc
open Go Go.RowKit
structure A0l where
 rows:Int
 cols:Int
 dx:NumV
 dy:NumV
 lam:NumV
def A0l.val(a:A0l):Value := .agg #[.int .i64 a.rows,.int .i64 a.cols,.bool a.dx.re.neg,a.dx.re.mag.v,.bool a.dx.im.neg,a.dx.im.mag.v,a.dx.under.v,.bool a.dy.re.neg,a.dy.re.mag.v,.bool a.dy.im.neg,a.dy.im.mag.v,a.dy.under.v,.bool a.lam.re.neg,a.lam.re.mag.v,.bool a.lam.im.neg,a.lam.im.mag.v,a.lam.under.v]
structure a0h where
 rows:Int
 cols:Int
 dx:RatV
 dy:RatV
 lam:RatV
def a0h.val(a:a0h):Value := .agg #[.int .i64 a.rows,.int .i64 a.cols,.int .i64 a.dx.re,.int .i64 a.dx.im,.int .i64 a.dx.den,.int .i64 a.dy.re,.int .i64 a.dy.im,.int .i64 a.dy.den,.int .i64 a.lam.re,.int .i64 a.lam.im,.int .i64 a.lam.den]
