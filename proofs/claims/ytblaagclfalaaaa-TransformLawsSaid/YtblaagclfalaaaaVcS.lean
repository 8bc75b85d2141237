/- Part of the proof; it has the parts VcS. -/
import Derived.Test.YtblaagclfalaaaaVcH
namespace Go.Vc
open Go Go.RowKit
structure Sl where
 a:Option Addr
 len:Nat
 cap:Nat
def Sl.v(s:Sl):Value := .slice s.a s.len s.cap
structure WhV where
 neg:Bool
 mag:Sl
def WhV.val(x:WhV):Value := .agg #[.bool x.neg,x.mag.v]
structure NumV where
 re:WhV
 im:WhV
 under:Sl
def NumV.val(x:NumV):Value := .agg #[.bool x.re.neg,x.re.mag.v,.bool x.im.neg,x.im.mag.v,x.under.v]
structure RatV where
 re:Int
 im:Int
 den:Int
def RatV.val(r:RatV):Value := .agg #[.int .i64 r.re,.int .i64 r.im,.int .i64 r.den]
structure GateV where
 from_:Int
 count:Int
def GateV.val(x:GateV):Value := .agg #[.int .i64 x.from_,.int .i64 x.count]
