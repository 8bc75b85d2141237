/- Part. -/
import Derived.Test.YtjadnpidefnpoaaGreatVcS
namespace Go.Vc
open Go Go.RowKit
structure M03 where
 x:NumV
 y:NumV
 z:NumV
def M03.val(a:M03):Value := .agg #[.bool a.x.re.neg,a.x.re.mag.v,.bool a.x.im.neg,a.x.im.mag.v,a.x.under.v,.bool a.y.re.neg,a.y.re.mag.v,.bool a.y.im.neg,a.y.im.mag.v,a.y.under.v,.bool a.z.re.neg,a.z.re.mag.v,.bool a.z.im.neg,a.z.im.mag.v,a.z.under.v]
structure S05 where
 o:M03
 u:M03
 v:M03
def S05.val(a:S05):Value := .agg #[.bool a.o.x.re.neg,a.o.x.re.mag.v,.bool a.o.x.im.neg,a.o.x.im.mag.v,a.o.x.under.v,.bool a.o.y.re.neg,a.o.y.re.mag.v,.bool a.o.y.im.neg,a.o.y.im.mag.v,a.o.y.under.v,.bool a.o.z.re.neg,a.o.z.re.mag.v,.bool a.o.z.im.neg,a.o.z.im.mag.v,a.o.z.under.v,.bool a.u.x.re.neg,a.u.x.re.mag.v,.bool a.u.x.im.neg,a.u.x.im.mag.v,a.u.x.under.v,.bool a.u.y.re.neg,a.u.y.re.mag.v,.bool a.u.y.im.neg,a.u.y.im.mag.v,a.u.y.under.v,.bool a.u.z.re.neg,a.u.z.re.mag.v,.bool a.u.z.im.neg,a.u.z.im.mag.v,a.u.z.under.v,.bool a.v.x.re.neg,a.v.x.re.mag.v,.bool a.v.x.im.neg,a.v.x.im.mag.v,a.v.x.under.v,.bool a.v.y.re.neg,a.v.y.re.mag.v,.bool a.v.y.im.neg,a.v.y.im.mag.v,a.v.y.under.v,.bool a.v.z.re.neg,a.v.z.re.mag.v,.bool a.v.z.im.neg,a.v.z.im.mag.v,a.v.z.under.v]
structure A0h where
 i:Int
 j:Int
 at_:M03
def A0h.val(a:A0h):Value := .agg #[.int .i64 a.i,.int .i64 a.j,.bool a.at_.x.re.neg,a.at_.x.re.mag.v,.bool a.at_.x.im.neg,a.at_.x.im.mag.v,a.at_.x.under.v,.bool a.at_.y.re.neg,a.at_.y.re.mag.v,.bool a.at_.y.im.neg,a.at_.y.im.mag.v,a.at_.y.under.v,.bool a.at_.z.re.neg,a.at_.z.re.mag.v,.bool a.at_.z.im.neg,a.at_.z.im.mag.v,a.at_.z.under.v]
structure z0g where
 time:NumV
 place:NumV
def z0g.val(a:z0g):Value := .agg #[.bool a.time.re.neg,a.time.re.mag.v,.bool a.time.im.neg,a.time.im.mag.v,a.time.under.v,.bool a.place.re.neg,a.place.re.mag.v,.bool a.place.im.neg,a.place.im.mag.v,a.place.under.v]
structure K0j where
 time:NumV
 value:NumV
def K0j.val(a:K0j):Value := .agg #[.bool a.time.re.neg,a.time.re.mag.v,.bool a.time.im.neg,a.time.im.mag.v,a.time.under.v,.bool a.value.re.neg,a.value.re.mag.v,.bool a.value.im.neg,a.value.im.mag.v,a.value.under.v]
structure Arr3 where
 e0:RatV
 e1:RatV
 e2:RatV
def Arr3.val(a:Arr3):Value := .agg #[.int .i64 a.e0.re,.int .i64 a.e0.im,.int .i64 a.e0.den,.int .i64 a.e1.re,.int .i64 a.e1.im,.int .i64 a.e1.den,.int .i64 a.e2.re,.int .i64 a.e2.im,.int .i64 a.e2.den]
structure t09 where
 e0:RatV
 e1:RatV
def t09.val(a:t09):Value := .agg #[.int .i64 a.e0.re,.int .i64 a.e0.im,.int .i64 a.e0.den,.int .i64 a.e1.re,.int .i64 a.e1.im,.int .i64 a.e1.den]
structure Z07 where
 e0:RatV
 e1:RatV
 e2:RatV
 e3:RatV
def Z07.val(a:Z07):Value := .agg #[.int .i64 a.e0.re,.int .i64 a.e0.im,.int .i64 a.e0.den,.int .i64 a.e1.re,.int .i64 a.e1.im,.int .i64 a.e1.den,.int .i64 a.e2.re,.int .i64 a.e2.im,.int .i64 a.e2.den,.int .i64 a.e3.re,.int .i64 a.e3.im,.int .i64 a.e3.den]
structure O04 where
 e0:NumV
 e1:NumV
 e2:NumV
def O04.val(a:O04):Value := .agg #[.bool a.e0.re.neg,a.e0.re.mag.v,.bool a.e0.im.neg,a.e0.im.mag.v,a.e0.under.v,.bool a.e1.re.neg,a.e1.re.mag.v,.bool a.e1.im.neg,a.e1.im.mag.v,a.e1.under.v,.bool a.e2.re.neg,a.e2.re.mag.v,.bool a.e2.im.neg,a.e2.im.mag.v,a.e2.under.v]
structure k0j where
 e0:Int
 e1:Int
def k0j.val(a:k0j):Value := .agg #[.int .i64 a.e0,.int .i64 a.e1]
structure A0n where
 o:Arr3
 u:Arr3
 v:Arr3
def A0n.val(a:A0n):Value := .agg #[.int .i64 a.o.e0.re,.int .i64 a.o.e0.im,.int .i64 a.o.e0.den,.int .i64 a.o.e1.re,.int .i64 a.o.e1.im,.int .i64 a.o.e1.den,.int .i64 a.o.e2.re,.int .i64 a.o.e2.im,.int .i64 a.o.e2.den,.int .i64 a.u.e0.re,.int .i64 a.u.e0.im,.int .i64 a.u.e0.den,.int .i64 a.u.e1.re,.int .i64 a.u.e1.im,.int .i64 a.u.e1.den,.int .i64 a.u.e2.re,.int .i64 a.u.e2.im,.int .i64 a.u.e2.den,.int .i64 a.v.e0.re,.int .i64 a.v.e0.im,.int .i64 a.v.e0.den,.int .i64 a.v.e1.re,.int .i64 a.v.e1.im,.int .i64 a.v.e1.den,.int .i64 a.v.e2.re,.int .i64 a.v.e2.im,.int .i64 a.v.e2.den]
structure p0t where
 i:Int
 j:Int
 at_:Arr3
def p0t.val(a:p0t):Value := .agg #[.int .i64 a.i,.int .i64 a.j,.int .i64 a.at_.e0.re,.int .i64 a.at_.e0.im,.int .i64 a.at_.e0.den,.int .i64 a.at_.e1.re,.int .i64 a.at_.e1.im,.int .i64 a.at_.e1.den,.int .i64 a.at_.e2.re,.int .i64 a.at_.e2.im,.int .i64 a.at_.e2.den]
