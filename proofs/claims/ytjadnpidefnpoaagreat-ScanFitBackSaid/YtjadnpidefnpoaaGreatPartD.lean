/- Part. -/
import Derived.Test.YtjadnpidefnpoaaGreatPartC
import Derived.Deep.Slices
namespace Go.Proofs.YtjadnpidefnpoaaGreat
open Go Go.Vc Go.Proofs
open Go.Proofs.Tryz (prog)
open Go.IntKind (i64 u64 u32 u8)
theorem z0d{V:View}{s t:Sl}{a b:Nat}(hs:X00 V s a)(ht:X00 V t b)(ha:wn a<=2^43)(hb:wn b<=2^43) :
 a00 prog C0o #[s.v,t.v] V λv V'=>∃r:Sl,v=r.v/\X00 V' r (Nat.gcd a b):=by
 refine p0n s t V _ (λ_ x V'=>∃a' b',X00 V' x.t0 a'/\X00 V' x.t1 b'/\wn a'<=2^43/\wn b'<=2^43/\Nat.gcd a' b'=Nat.gcd a b) (λ_ x V'=>P0e V' x.t1) ⟨⟨a,b,hs,ht,ha,hb,rfl⟩,?_⟩
 rintro⟨x,y⟩ V1 l1 ⟨a',b',hx,hy,wa,wb,hg⟩
 simp only at hx hy ⊢
 have hyl:=hy.len
 refine⟨λhp => ?_,λhp => ?_⟩
 . simp only[gt_iff_lt,decide_eq_true_eq]at hp
   have hb0:b'≠0:=λe=>by rw[<-hy.len_zero]at e; omega
   refine(n08 hx hy wa hb0).mono λv V2 l2 ⟨q,r,hv,hq,hr⟩=>⟨q,r,hv,?_⟩
   have hlt:a'%b'<b':=Nat.mod_lt _ (by omega)
   have hwr:wn (a'%b')<=wn b':=z09 (Nat.le_of_lt hlt)
   refine⟨⟨b',a'%b',hy.le l2,hr,wb,by omega,?_⟩,?_⟩
   . rw[Nat.gcd_comm,<-Nat.gcd_rec,Nat.gcd_comm]; exact hg
   . rw[a09 hr,a09 hy]; exact hlt
 . simp only[gt_iff_lt,decide_eq_false_iff_not]at hp
   have hb0:b'=0:=hy.len_zero.1 (by omega)
   subst hb0
   rw[Nat.gcd_zero_right]at hg
   exact⟨x,rfl,by rw[<-hg]; exact hx⟩
theorem c04{V:View}{s:Sl}{n:Nat}(neg:Bool)(h:X00 V s n) :
 a00 prog c0h #[.bool neg,s.v] V λv V'=>∃r:WhV,v=r.val/\B04 V' r (if neg=true then -(n:Int)else n):=by
 have hl:=h.len_zero
 refine I0f neg s V _ ⟨λhn=>⟨_,rfl,?_,?_⟩,λhn=>⟨_,rfl,?_,?_⟩⟩
 . rw[if_pos hn]; simp only[gt_iff_lt,decide_eq_decide]; omega
 . rw[if_pos hn]; simpa using h
 . rw[if_neg (by simp[hn])]; symm; simp only[decide_eq_false_iff_not]; omega
 . rw[if_neg (by simp[hn])]; simpa using h
theorem A07{V:View}{n:Int}(h0 : -9223372036854775808<=n)(h1:n<=9223372036854775807) :
 a00 prog Y0m #[.int .i64 n] V λv V'=>∃r:WhV,v=r.val/\B04 V' r n:=by
 refine E0k n V _ ⟨λhn => ?_,λhn => ?_⟩
 . simp only[decide_eq_true_eq]at hn
   have e:u64.wrap (0-u64.wrap n) = -n:=by rw[u64m,u64m]; omega
   rw[e]
   refine(D08 (by omega) (by omega)).mono λv V1 _ ⟨r,hv,hr⟩=>⟨r,hv,_,rfl,by simp[hn],?_⟩
   have e2:n.natAbs=(-n).toNat:=by omega
   rw[e2]; exact hr
 . simp only[decide_eq_false_iff_not]at hn
   rw[u64w (by omega) (by omega)]
   refine(D08 (by omega) (by omega)).mono λv V1 _ ⟨r,hv,hr⟩=>⟨r,hv,_,rfl,by simp[hn],?_⟩
   have e2:n.natAbs=n.toNat:=by omega
   rw[e2]; exact hr
theorem P02{V:View}{x:WhV}{a:Int}(h:B04 V x a) :
 a00 prog b0h #[x.val] V λv V'=>∃r:WhV,v=r.val/\B04 V' r (-a):=by
 refine J0f x V _ ((c04 (!x.neg) h.2).mono λv V1 _ ⟨r,hv,hr⟩=>⟨r,hv,r,rfl,?_⟩)
 have e:(if(!x.neg)=true then -(a.natAbs:Int)else(a.natAbs:Int)) = -a:=by
  rw[h.1]; simp only[Bool.not_eq_true',decide_eq_false_iff_not]; split<;>omega
 rw[e]at hr; exact hr
theorem x04{V:View}{x y:WhV}{a b:Int}(hx:B04 V x a)(hy:B04 V y b)(ha:wn a.natAbs<=2^43)(hb:wn b.natAbs<=2^43) :
 a00 prog H0i #[x.val,y.val] V λv V'=>∃r:WhV,v=r.val/\B04 V' r (a+b):=by
 have h1:=hx.1
 have h2:=hy.1
 refine o0h x y V _ ⟨λhs => ?_,λhs => ?_⟩
 . refine(y0j hx.2 hy.2 (by omega) (by omega)).mono λv V1 l1 ⟨r,hv,hr⟩=>⟨r,hv,?_⟩
   refine(c04 x.neg hr).mono λv V2 _ ⟨w,hv,hw⟩=>⟨w,hv,w,rfl,?_⟩
   have e:(if x.neg=true then -((a.natAbs+b.natAbs:Nat):Int)else((a.natAbs+b.natAbs:Nat):Int))=a+b:=by
    rw[h1,h2]at hs; rw[h1]
    by_cases p:a<0<;>by_cases q:b<0<;>simp[p,q]at hs ⊢<;>omega
   rw[e]at hw; exact hw
 . refine(w0a hx.2 hy.2 (by omega)).mono λv V1 l1 hv=>⟨_,hv,λhc => ?_,λhc => ?_⟩
   . have hc:b.natAbs<=a.natAbs:=by
       rcases Nat.lt_or_ge a.natAbs b.natAbs with h|h
       . rw[if_pos h]at hc; simp at hc
       . exact h
     refine(w0d (hx.2.le l1) (hy.2.le l1) (by omega) hc).mono λv V2 l2 ⟨r,hv,hr⟩=>⟨r,hv,?_⟩
     refine(c04 x.neg hr).mono λv V3 _ ⟨w,hv,hw⟩=>⟨w,hv,w,rfl,?_⟩
     have e:(if x.neg=true then -((a.natAbs-b.natAbs:Nat):Int)else((a.natAbs-b.natAbs:Nat):Int))=a+b:=by
      rw[h1,h2]at hs; rw[h1]
      by_cases p:a<0<;>by_cases q:b<0<;>simp[p,q]at hs ⊢<;>omega
     rw[e]at hw; exact hw
   . have hc:a.natAbs<=b.natAbs:=by
       rcases Nat.lt_or_ge b.natAbs a.natAbs with h|h
       . rw[if_neg (by omega),if_neg (by omega)]at hc; simp at hc
       . exact h
     refine(w0d (hy.2.le l1) (hx.2.le l1) (by omega) hc).mono λv V2 l2 ⟨r,hv,hr⟩=>⟨r,hv,?_⟩
     refine(c04 y.neg hr).mono λv V3 _ ⟨w,hv,hw⟩=>⟨w,hv,w,rfl,?_⟩
     have e:(if y.neg=true then -((b.natAbs-a.natAbs:Nat):Int)else((b.natAbs-a.natAbs:Nat):Int))=a+b:=by
      rw[h1,h2]at hs; rw[h2]
      by_cases p:a<0<;>by_cases q:b<0<;>simp[p,q]at hs ⊢<;>omega
     rw[e]at hw; exact hw
theorem t0q(x y a b:Int)(hx:x=if a<0 then -1 else 1)(hy:y=if b<0 then -1 else 1):a*b=x*y*(a.natAbs*b.natAbs:Nat):=by
 have ha:a=x*a.natAbs:=by rw[hx]; split<;>omega
 have hb:b=y*b.natAbs:=by rw[hy]; split<;>omega
 rw[Int.natCast_mul]
 conv=>lhs; rw[ha,hb]
 grind
theorem d04{V:View}{x y:WhV}{a b:Int}(hx:B04 V x a)(hy:B04 V y b)(ha:wn a.natAbs<=2^43)(hb:wn b.natAbs<=2^43) :
 a00 prog a0h #[x.val,y.val] V λv V'=>∃r:WhV,v=r.val/\B04 V' r (a*b):=by
 refine K0f x y V _ ((Y06 hx.2 hy.2 (by omega) (by omega)).mono λv V1 l1 ⟨r,hv,hr⟩=>⟨r,hv,?_⟩)
 refine(c04 (!(x.neg==y.neg)) hr).mono λv V2 _ ⟨w,hv,hw⟩=>⟨w,hv,w,rfl,?_⟩
 have e:(if(!(x.neg==y.neg))=true then -((a.natAbs*b.natAbs:Nat):Int)else((a.natAbs*b.natAbs:Nat):Int))=a*b:=by
  rw[t0q _ _ a b rfl rfl,hx.1,hy.1]
  by_cases p:a<0<;>by_cases q:b<0<;>simp[p,q]
 rw[e]at hw; exact hw
theorem O01{V:View}{x:WhV}{s:Sl}{a:Int}{n:Nat}(hx:B04 V x a)(hs:X00 V s n)(ha:wn a.natAbs<=2^43)(hb:wn n<=2^43) :
 a00 prog E0f #[x.val,s.v] V λv V'=>∃r:WhV,v=r.val/\B04 V' r (a*n):=by
 refine I0e x s V _ ((Y06 hx.2 hs (by omega) (by omega)).mono λv V1 l1 ⟨r,hv,hr⟩=>⟨r,hv,?_⟩)
 refine(c04 x.neg hr).mono λv V2 _ ⟨w,hv,hw⟩=>⟨w,hv,w,rfl,?_⟩
 have e:(if x.neg=true then -((a.natAbs*n:Nat):Int)else((a.natAbs*n:Nat):Int))=a*n:=by
  conv=>rhs; rw[hx.val]
  rw[Int.natCast_mul]; split
  . rw[Int.neg_mul]
  . rfl
 rw[e]at hw; exact hw
theorem J06{V:View}{x y:WhV}{a b:Int}(hx:B04 V x a)(hy:B04 V y b)(ha:wn a.natAbs<=2^43)(hb:wn b.natAbs<=2^43) :
 a00 prog p0k #[x.val,y.val] V λv _=>v = .int .i64 (cmpZ a b):=by
 refine Y0i x y V _ ((P02 hy).mono λv V1 l1 ⟨r,hv,hr⟩=>⟨r,hv,?_⟩)
 refine(x04 (hx.le l1) hr ha (by rw[Int.natAbs_neg]; exact hb)).mono λv V2 l2 ⟨w,hv,hw⟩=>⟨w,hv,λh => ?_,λh => ?_⟩
 . have:a + -b<0:=by have:=hw.1; rw[h]at this; simpa using this
   rw[p0r (by omega)]
 . have h1:¬a + -b<0:=by have:=hw.1; rw[h]at this; simpa using this
   have h2:=hw.2.len_zero
   by_cases e:a=b
   . have:w.mag.len=0:=h2.2 (by omega)
     rw[q0r e,this]; rfl
   . have:w.mag.len≠0:=λh=>by have:=h2.1 h; omega
     rw[s0r (by omega)]
     congr 1; split<;>omega
theorem J04{V:View}{x y:WhV}{s:Sl}{z:Cq}{a b:Int}{d:Nat}(hx:B04 V x a)(hy:B04 V y b)(hs:X00 V s d)(hz:Rep z a b d)(ha:wn a.natAbs<=2^43)(hb:wn b.natAbs<=2^43)(hd:wn d<=2^43) :
 a00 prog X0m #[x.val,y.val,s.v] V λv V'=>∃r:NumV,v=r.val/\N00 V' r z:=by
 obtain⟨e1,e2,e3⟩:=hz.eqs
 have hp:=Z0d a b hz.pos
 have d1:=o0a a b d
 have d2:=a0c a b d
 have d3:=Q0e a b d
 refine F0k x y s V _ ((z0d hx.2 hy.2 ha hb).mono λv V1 l1 ⟨r1,hv,h1⟩=>⟨r1,hv,?_⟩)
 have hw1:wn (Nat.gcd a.natAbs b.natAbs)<=2^43:=by
  rcases Nat.eq_zero_or_pos a.natAbs with h|h
  . rw[h,Nat.gcd_zero_left]; exact hb
  . exact Nat.le_trans (z09 (Nat.le_of_dvd h (Nat.gcd_dvd_left _ _))) ha
 refine(z0d h1 (hs.le l1) hw1 hd).mono λv V2 l2 ⟨r2,hv,h2⟩=>⟨r2,hv,?_⟩
 have hg:Nat.gcd (Nat.gcd a.natAbs b.natAbs) d=gcd3 a b d:=rfl
 rw[hg]at h2
 refine(u0a h2).mono λv V3 l3 hv=>⟨_,hv,λhn => ?_,λhn => ?_⟩
 . have l13:=View.le_trans l1 (View.le_trans l2 l3)
   refine(n08 (hx.2.le l13) (h2.le l3) ha (by omega)).mono λv V4 l4 ⟨q1,m1,hv,hq1,_⟩=>⟨q1,m1,hv,?_⟩
   refine(n08 (hy.2.le (View.le_trans l13 l4)) (h2.le (View.le_trans l3 l4)) hb (by omega)).mono λv V5 l5 ⟨q2,m2,hv,hq2,_⟩=>⟨q2,m2,hv,?_⟩
   have l45:=View.le_trans l4 l5
   refine(n08 (hs.le (View.le_trans l13 l45)) (h2.le (View.le_trans l3 l45)) hd (by omega)).mono λv V6 l6 ⟨q3,m3,hv,hq3,_⟩=>⟨q3,m3,hv,?_⟩
   have f1:B04 V6 (WhV.mk x.neg q1) z.A:=⟨by rw[e1,Q07 d1 hp]; exact hx.1,by rw[e1,l05 d1]; exact hq1.le (View.le_trans l5 l6)⟩
   have f2:B04 V6 (WhV.mk y.neg q2) z.B:=⟨by rw[e2,Q07 d2 hp]; exact hy.1,by rw[e2,l05 d2]; exact hq2.le l6⟩
   refine(u0a hq3).mono λv V7 l7 hv=>⟨_,hv,λh=>⟨_,rfl,f1.le l7,f2.le l7,?_⟩,λh=>⟨_,rfl,f1.le l7,f2.le l7,?_⟩⟩
   . simp only[decide_eq_true_eq]at h
     rw[e3,if_pos h]; exact X00.zero V7
   . simp only[decide_eq_false_iff_not]at h
     rw[e3,if_neg h]; exact hq3.le l7
 . simp only[Bool.not_eq_false',decide_eq_true_eq]at hn
   rw[hn]at e1 e2 e3
   simp only[Int.natCast_one,Int.ediv_one]at e1 e2
   rw[Nat.div_one]at e3
   have l13:=View.le_trans l1 (View.le_trans l2 l3)
   refine(u0a (hs.le l13)).mono λv V7 l7 hv=>⟨_,hv,λh=>⟨_,rfl,?_,?_,?_⟩,λh=>⟨_,rfl,?_,?_,?_⟩⟩
   . rw[e1]; exact hx.le (View.le_trans l13 l7)
   . rw[e2]; exact hy.le (View.le_trans l13 l7)
   . simp only[decide_eq_true_eq]at h
     rw[e3,if_pos h]; exact X00.zero V7
   . rw[e1]; exact hx.le (View.le_trans l13 l7)
   . rw[e2]; exact hy.le (View.le_trans l13 l7)
   . simp only[decide_eq_false_iff_not]at h
     rw[e3,if_neg h]; exact hs.le (View.le_trans l13 l7)
theorem j02{V:View}{x:NumV}{z:Cq}(h:N00 V x z):a00 prog z0o #[x.val] V λv V'=>∃r:Sl,v=r.v/\X00 V' r z.D:=by
 have hu:=h.under
 have hl:=hu.len_zero
 have hD:=z.D_pos
 refine q0n x V _ ⟨λh0 => ?_,λh0 => ?_⟩
 . have h0:x.under.len=0:=by have:(x.under.len:Int)=0:=(by simpa using h0); omega
   intro b V1 l1 _ hb
   have hz:=hl.1 h0
   have h1:z.D=1:=by split at hz<;>omega
   refine⟨_,rfl,?_⟩
   rw[h1]
   have:dig 1=[1]:=by rw[g05 (by omega)]; simp[Y03]
   unfold X00; rw[this]
   exact H01.of_block (by rw[hb]; rfl) rfl (Nat.le_refl _) (by intro d hd; simp at hd; omega)
 . have h0:x.under.len≠0:=by have:¬(x.under.len:Int)=0:=(by simpa using h0); omega
   refine⟨_,rfl,?_⟩
   have hz:¬(if z.D=1 then 0 else z.D)=0:=λe=>h0 (hl.2 e)
   split at hz
   . omega
   . rename_i h1; rw[if_neg h1]at hu; exact hu
theorem D04{V:View}{n:Int}(h0 : -9223372036854775808<=n)(h1:n<=9223372036854775807) :
 a00 prog E0i #[.int .i64 n] V λv V'=>∃r:NumV,v=r.val/\N00 V' r ⟨(n:Rat),0⟩:=by
 obtain⟨e1,e2,e3⟩:=D0d n
 refine s0n n V _ ((A07 h0 h1).mono λv V1 _ ⟨r,hv,hr⟩=>⟨r,hv,_,rfl,by rw[e1]; exact hr,by rw[e2]; exact B04.zero _,by rw[e3]; exact X00.zero _⟩)
theorem wn64{n:Nat}(h:n<=18446744073709551615):wn n<=2^43:=by
 have:wn n<=2:=m04 (by omega)
 omega
theorem A0d{V:View}{p q d:Int}(p0 : -9223372036854775808<=p)(p1:p<=9223372036854775807)(q0 : -9223372036854775808<=q)(q1:q<=9223372036854775807)(d0 : -9223372036854775808<=d)(d1:d<=9223372036854775807)(hd:d≠0) :
 a00 prog x0o #[.int .i64 p,.int .i64 q,.int .i64 d] V λv V'=>∃r:NumV,v = .tuple #[r.val,.int .i64 0]/\N00 V' r ⟨(p:Rat) / (d:Rat),(q:Rat) / (d:Rat)⟩:=by
 refine t0n p q d V _ ⟨λh => ?_,λ_ => ?_⟩
 . exact absurd (by simpa using h) hd
 refine(A07 p0 p1).mono λv V1 l1 ⟨a,hv,ha⟩=>⟨a,hv,?_⟩
 refine(A07 q0 q1).mono λv V2 l2 ⟨b,hv,hb⟩=>⟨b,hv,?_⟩
 refine(A07 d0 d1).mono λv V3 l3 ⟨c,hv,hc⟩=>⟨c,hv,λhn => ?_,λhn => ?_⟩
 . have hneg:d<0:=by have:=hc.1; rw[hn]at this; simpa using this.symm
   refine(P02 (ha.le (View.le_trans l2 l3))).mono λv V4 l4 ⟨a',hv,ha'⟩=>⟨a',hv,?_⟩
   refine(P02 (hb.le (View.le_trans l3 l4))).mono λv V5 l5 ⟨b',hv,hb'⟩=>⟨b',hv,?_⟩
   refine(J04 (ha'.le l5) hb' (hc.2.le (View.le_trans l4 l5)) ?_ (wn64 (by omega)) (wn64 (by omega)) (wn64 (by omega))).mono λv V6 l6 ⟨r,hv,hr⟩=>⟨r,hv,r,rfl,hr⟩
   have e:((d.natAbs:Nat):Rat) = -(d:Rat):=by
    have:(d.natAbs:Int) = -d:=by omega
    rw[<-Rat.intCast_natCast,this]; push_cast; rfl
   refine⟨by omega,?_,?_⟩<;>(simp only[e]; push_cast; rw[Rat.div_def,Rat.div_def]; grind)
 . have hpos:¬d<0:=by have:=hc.1; rw[hn]at this; simpa using this.symm
   refine(J04 (ha.le (View.le_trans l2 l3)) (hb.le l3) hc.2 ?_ (wn64 (by omega)) (wn64 (by omega)) (wn64 (by omega))).mono λv V6 l6 ⟨r,hv,hr⟩=>⟨r,hv,r,rfl,hr⟩
   have e:((d.natAbs:Nat):Rat)=(d:Rat):=by
    have:(d.natAbs:Int)=d:=by omega
    rw[<-Rat.intCast_natCast,this]
   refine⟨by omega,?_,?_⟩<;>simp only[e]
theorem Cq.wA{z:Cq}(h:z.sz<=2^40):wn z.A.natAbs<=2^35:=E0n (by have:=z.szA; omega)
theorem Cq.wB{z:Cq}(h:z.sz<=2^40):wn z.B.natAbs<=2^35:=E0n (by have:=z.szB; omega)
theorem Cq.wD{z:Cq}(h:z.sz<=2^40):wn z.D<=2^35:=E0n (by have:=z.szD; omega)
theorem s05{a b:Int}{k:Nat}(ha:wn a.natAbs<=k)(hb:wn b.natAbs<=k):wn (a*b).natAbs<=2*k:=by
 rw[Int.natAbs_mul]; have:=Z0b a.natAbs b.natAbs; omega
theorem c0f{a b:Int}{k:Nat}(ha:wn a.natAbs<=k)(hb:wn b.natAbs<=k):wn (a+b).natAbs<=k+1:=by
 have:=z09 (Int.natAbs_add_le a b); have:=J0o a.natAbs b.natAbs; omega
theorem C0r{a:Int}{k:Nat}(ha:wn a.natAbs<=k):wn (-a).natAbs<=k:=by rw[Int.natAbs_neg]; exact ha
theorem O03{V:View}{x y:NumV}{z w:Cq}(hx:N00 V x z)(hy:N00 V y w)(hz:z.sz<=2^40)(hw:w.sz<=2^40) :
 a00 prog t0o #[x.val,y.val] V λv V'=>∃r:NumV,v=r.val/\N00 V' r (z+w):=by
 have zA:=Cq.wA hz; have zB:=Cq.wB hz; have zD:=Cq.wD hz
 have wA:=Cq.wA hw; have wB:=Cq.wB hw; have wD:=Cq.wD hw
 have zD':wn (z.D:Int).natAbs<=2^35:=zD
 have wD':wn (w.D:Int).natAbs<=2^35:=wD
 have s1:=s05 zA wD'; have s2:=s05 wA zD'; have s3:=s05 zB wD'; have s4:=s05 wB zD'
 have s5:=c0f s1 s2; have s6:=c0f s3 s4
 have s7:=Z0b z.D w.D
 refine u0n x y V _ ((j02 hx).mono λv V1 l1 ⟨r1,hv,h1⟩=>⟨r1,hv,?_⟩)
 replace hx:=hx.le l1; replace hy:=hy.le l1
 refine(j02 hy).mono λv V2 l2 ⟨r2,hv,h2⟩=>⟨r2,hv,?_⟩
 replace hx:=hx.le l2; replace hy:=hy.le l2; replace h1:=h1.le l2
 refine(O01 hx.re h2 (by omega) (by omega)).mono λv V3 l3 ⟨r3,hv,h3⟩=>⟨r3,hv,?_⟩
 replace hx:=hx.le l3; replace hy:=hy.le l3; replace h1:=h1.le l3; replace h2:=h2.le l3
 refine(O01 hy.re h1 (by omega) (by omega)).mono λv V4 l4 ⟨r4,hv,h4⟩=>⟨r4,hv,?_⟩
 replace hx:=hx.le l4; replace hy:=hy.le l4; replace h1:=h1.le l4; replace h2:=h2.le l4; replace h3:=h3.le l4
 refine(x04 h3 h4 (by omega) (by omega)).mono λv V5 l5 ⟨r5,hv,h5⟩=>⟨r5,hv,?_⟩
 replace hx:=hx.le l5; replace hy:=hy.le l5; replace h1:=h1.le l5; replace h2:=h2.le l5
 refine(O01 hx.im h2 (by omega) (by omega)).mono λv V6 l6 ⟨r6,hv,h6⟩=>⟨r6,hv,?_⟩
 replace hy:=hy.le l6; replace h1:=h1.le l6; replace h2:=h2.le l6; replace h5:=h5.le l6
 refine(O01 hy.im h1 (by omega) (by omega)).mono λv V7 l7 ⟨r7,hv,h7⟩=>⟨r7,hv,?_⟩
 replace h1:=h1.le l7; replace h2:=h2.le l7; replace h5:=h5.le l7; replace h6:=h6.le l7
 refine(x04 h6 h7 (by omega) (by omega)).mono λv V8 l8 ⟨r8,hv,h8⟩=>⟨r8,hv,?_⟩
 replace h1:=h1.le l8; replace h2:=h2.le l8; replace h5:=h5.le l8
 refine(Y06 h1 h2 (by omega) (by omega)).mono λv V9 l9 ⟨r9,hv,h9⟩=>⟨r9,hv,?_⟩
 exact(J04 (h5.le l9) (h8.le l9) h9 (z.canon.rep.add w.canon.rep) (by omega) (by omega) (by omega)).mono λv V10 _ ⟨r,hv,hr⟩=>⟨r,hv,r,rfl,hr⟩
theorem B0j{V:View}{x:NumV}{z:Cq}(hx:N00 V x z):a00 prog w0o #[x.val] V λv V'=>∃r:NumV,v=r.val/\N00 V' r (-z):=by
 obtain⟨e1,e2,e3⟩:=z.neg_eqs
 refine w0n x V _ ((P02 hx.re).mono λv V1 l1 ⟨r1,hv,h1⟩=>⟨r1,hv,?_⟩)
 exact(P02 (hx.im.le l1)).mono λv V2 l2 ⟨r2,hv,h2⟩=>⟨r2,hv,_,rfl,by rw[e1]; exact h1.le l2,by rw[e2]; exact h2,by rw[e3]; exact hx.under.le (View.le_trans l1 l2)⟩
theorem S0h{V:View}{x:NumV}{z:Cq}(hx:N00 V x z):a00 prog f0n #[x.val] V λv V'=>∃r:NumV,v=r.val/\N00 V' r z.conj:=by
 obtain⟨e1,e2,e3⟩:=z.conj_eqs
 exact I0k x V _ ((P02 hx.im).mono λv V1 l1 ⟨r1,hv,h1⟩=>⟨r1,hv,_,rfl,by rw[e1]; exact hx.re.le l1,by rw[e2]; exact h1,by rw[e3]; exact hx.under.le l1⟩)
theorem E04{V:View}{x y:NumV}{z w:Cq}(hx:N00 V x z)(hy:N00 V y w)(hz:z.sz<=2^40)(hw:w.sz<=2^40) :
 a00 prog E0e #[x.val,y.val] V λv V'=>∃r:NumV,v=r.val/\N00 V' r (z-w):=by
 refine x0n x y V _ ((B0j hy).mono λv V1 l1 ⟨r1,hv,h1⟩=>⟨r1,hv,?_⟩)
 rw[Z0j]
 exact(O03 (hx.le l1) h1 hz (by rw[Y0j]; exact hw)).mono λv V2 _ ⟨r,hv,hr⟩=>⟨r,hv,r,rfl,hr⟩
theorem y02{V:View}{x y:NumV}{z w:Cq}(hx:N00 V x z)(hy:N00 V y w)(hz:z.sz<=2^40)(hw:w.sz<=2^40) :
 a00 prog C0e #[x.val,y.val] V λv V'=>∃r:NumV,v=r.val/\N00 V' r (z*w):=by
 have zA:=Cq.wA hz; have zB:=Cq.wB hz; have zD:=Cq.wD hz
 have wA:=Cq.wA hw; have wB:=Cq.wB hw; have wD:=Cq.wD hw
 have s1:=s05 zA wA; have s2:=s05 zB wB; have s2':=C0r s2; have s3:=s05 zA wB; have s4:=s05 zB wA
 have s5:=c0f s1 s2'; have s6:=c0f s3 s4
 have s7:=Z0b z.D w.D
 refine y0n x y V _ ((d04 hx.re hy.re (by omega) (by omega)).mono λv V1 l1 ⟨r1,hv,h1⟩=>⟨r1,hv,?_⟩)
 replace hx:=hx.le l1; replace hy:=hy.le l1
 refine(d04 hx.im hy.im (by omega) (by omega)).mono λv V2 l2 ⟨r2,hv,h2⟩=>⟨r2,hv,?_⟩
 replace hx:=hx.le l2; replace hy:=hy.le l2; replace h1:=h1.le l2
 refine(P02 h2).mono λv V3 l3 ⟨r3,hv,h3⟩=>⟨r3,hv,?_⟩
 replace hx:=hx.le l3; replace hy:=hy.le l3; replace h1:=h1.le l3
 refine(x04 h1 h3 (by omega) (by omega)).mono λv V4 l4 ⟨r4,hv,h4⟩=>⟨r4,hv,?_⟩
 replace hx:=hx.le l4; replace hy:=hy.le l4
 refine(d04 hx.re hy.im (by omega) (by omega)).mono λv V5 l5 ⟨r5,hv,h5⟩=>⟨r5,hv,?_⟩
 replace hx:=hx.le l5; replace hy:=hy.le l5; replace h4:=h4.le l5
 refine(d04 hx.im hy.re (by omega) (by omega)).mono λv V6 l6 ⟨r6,hv,h6⟩=>⟨r6,hv,?_⟩
 replace hx:=hx.le l6; replace hy:=hy.le l6; replace h4:=h4.le l6; replace h5:=h5.le l6
 refine(x04 h5 h6 (by omega) (by omega)).mono λv V7 l7 ⟨r7,hv,h7⟩=>⟨r7,hv,?_⟩
 replace hx:=hx.le l7; replace hy:=hy.le l7; replace h4:=h4.le l7
 refine(j02 hx).mono λv V8 l8 ⟨r8,hv,h8⟩=>⟨r8,hv,?_⟩
 replace hy:=hy.le l8; replace h4:=h4.le l8; replace h7:=h7.le l8
 refine(j02 hy).mono λv V9 l9 ⟨r9,hv,h9⟩=>⟨r9,hv,?_⟩
 replace h4:=h4.le l9; replace h7:=h7.le l9; replace h8:=h8.le l9
 refine(Y06 h8 h9 (by omega) (by omega)).mono λv V10 l10 ⟨r10,hv,h10⟩=>⟨r10,hv,?_⟩
 refine(J04 (h4.le l10) (h7.le l10) h10 ?_ (by omega) (by omega) (by omega)).mono λv V11 _ ⟨r,hv,hr⟩=>⟨r,hv,r,rfl,hr⟩
 rw[<-Int.sub_eq_add_neg]; exact z.canon.rep.mul w.canon.rep
theorem k06{V:View}{x y:NumV}{z w:Cq}(hx:N00 V x z)(hy:N00 V y w)(hz:z.sz<=2^40)(hw:w.sz<=2^40) :
 a00 prog T0m #[x.val,y.val] V λv _=>v = .bool (decide (z=w)):=by
 have zA:=Cq.wA hz; have zB:=Cq.wB hz; have zD:=Cq.wD hz
 have wA:=Cq.wA hw; have wB:=Cq.wB hw; have wD:=Cq.wD hw
 refine G0k x y V _ ((J06 hx.re hy.re (by omega) (by omega)).mono λv V1 l1 hv=>⟨_,hv,λh1 => ?_,λh1=>⟨(λh=>by cases h),λ_ => ?_⟩⟩)
 . have h1:z.A=w.A:=b0c.1 (by simpa using h1)
   refine(J06 (hx.im.le l1) (hy.im.le l1) (by omega) (by omega)).mono λv V2 l2 hv=>⟨_,hv,λh2 => ?_,λh2 => ?_⟩
   . have h2:z.B=w.B:=b0c.1 (by simpa using h2)
     refine(w0a (hx.under.le (View.le_trans l1 l2)) (hy.under.le (View.le_trans l1 l2)) ?_).mono λv V3 l3 hv=>⟨_,hv,?_⟩
     . split
       . rw[A08]; omega
       . omega
     . have hD1:=z.D_pos
       have hD2:=w.D_pos
       congr 1
       by_cases e:z.D=w.D
       . have:z=w:=I0q h1 h2 e
         subst this; simp
       . have:z≠w:=by rintro rfl; exact e rfl
         simp only[this,decide_false]
         have h3:(if z.D=1 then 0 else z.D)≠(if w.D=1 then 0 else w.D):=by split<;>split<;>omega
         rw[if_neg h3]
         by_cases h:(if z.D=1 then 0 else z.D)<(if w.D=1 then 0 else w.D)
         . rw[if_pos h]; rfl
         . rw[if_neg h]; rfl
   . have h2:¬z.B=w.B:=λe=>by rw[b0c.2 e]at h2; simp at h2
     have:z≠w:=by rintro rfl; exact h2 rfl
     simp[this]
 . have h1:¬z.A=w.A:=λe=>by rw[b0c.2 e]at h1; simp at h1
   have:z≠w:=by rintro rfl; exact h1 rfl
   simp[this]
theorem M03{V:View}{x:NumV}{z:Cq}(hx:N00 V x z):a00 prog Z0m #[x.val] V λv _=>v = .bool (decide (z.im=0)):=by
 refine H0k x V _ ?_
 have h1:=hx.im.2.len_zero
 have h2:=Cq.B_zero (z:=z)
 congr 1
 by_cases e:z.im=0
 . have:x.im.mag.len=0:=h1.2 (by rw[h2.2 e]; rfl)
   simp[e,this]
 . have:x.im.mag.len≠0:=λh=>e (h2.1 (by have:=h1.1 h; omega))
   simp only[e,decide_false,beq_eq_false_iff_ne,ne_eq]; omega
theorem Z06{V:View}{x y:NumV}{z w:Cq}(hx:N00 V x z)(hy:N00 V y w)(hz:z.sz<=2^40)(hw:w.sz<=2^40) :
 a00 prog u0o #[x.val,y.val] V λv _=>v = .int .i64 (z.cmp w):=by
 have zA:=Cq.wA hz; have zB:=Cq.wB hz; have zD:=Cq.wD hz
 have wA:=Cq.wA hw; have wB:=Cq.wB hw; have wD:=Cq.wD hw
 have zD':wn (z.D:Int).natAbs<=2^35:=zD
 have wD':wn (w.D:Int).natAbs<=2^35:=wD
 have s1:=s05 zA wD'; have s2:=s05 wA zD'; have s3:=s05 zB wD'; have s4:=s05 wB zD'
 have c1:cmpZ (z.A*w.D) (w.A*z.D)=cmpR z.re w.re:=by rw[T0q z.D_pos w.D_pos,<-z.canon.rep.re,<-w.canon.rep.re]
 have c2:cmpZ (z.B*w.D) (w.B*z.D)=cmpR z.im w.im:=by rw[T0q z.D_pos w.D_pos,<-z.canon.rep.im,<-w.canon.rep.im]
 refine z0n x y V _ ((j02 hy).mono λv V1 l1 ⟨r1,hv,h1⟩=>⟨r1,hv,?_⟩)
 replace hx:=hx.le l1; replace hy:=hy.le l1
 refine(O01 hx.re h1 (by omega) (by omega)).mono λv V2 l2 ⟨r2,hv,h2⟩=>⟨r2,hv,?_⟩
 replace hx:=hx.le l2; replace hy:=hy.le l2
 refine(j02 hx).mono λv V3 l3 ⟨r3,hv,h3⟩=>⟨r3,hv,?_⟩
 replace hx:=hx.le l3; replace hy:=hy.le l3; replace h2:=h2.le l3
 refine(O01 hy.re h3 (by omega) (by omega)).mono λv V4 l4 ⟨r4,hv,h4⟩=>⟨r4,hv,?_⟩
 replace hx:=hx.le l4; replace hy:=hy.le l4; replace h2:=h2.le l4
 refine(J06 h2 h4 (by omega) (by omega)).mono λv V5 l5 hv=>⟨_,hv,λhn => ?_,λhn => ?_⟩
 . rw[c1]at hn ⊢
   have hn:cmpR z.re w.re≠0:=by simpa using hn
   unfold Cq.cmp; rw[if_pos hn]
 . rw[c1]at hn
   have hn:¬cmpR z.re w.re≠0:=by simpa using hn
   replace hx:=hx.le l5; replace hy:=hy.le l5
   refine(j02 hy).mono λv V6 l6 ⟨r6,hv,h6⟩=>⟨r6,hv,?_⟩
   replace hx:=hx.le l6; replace hy:=hy.le l6
   refine(O01 hx.im h6 (by omega) (by omega)).mono λv V7 l7 ⟨r7,hv,h7⟩=>⟨r7,hv,?_⟩
   replace hx:=hx.le l7; replace hy:=hy.le l7
   refine(j02 hx).mono λv V8 l8 ⟨r8,hv,h8⟩=>⟨r8,hv,?_⟩
   replace hx:=hx.le l8; replace hy:=hy.le l8; replace h7:=h7.le l8
   refine(O01 hy.im h8 (by omega) (by omega)).mono λv V9 l9 ⟨r9,hv,h9⟩=>⟨r9,hv,?_⟩
   replace h7:=h7.le l9
   refine(J06 h7 h9 (by omega) (by omega)).mono λv V10 l10 hv=>⟨_,hv,?_⟩
   unfold Cq.cmp; rw[if_neg hn,c2]
def ratQ(r:RatV):Cq:=if r.den=0 then⟨(r.re:Rat),(r.im:Rat)⟩else⟨(r.re:Rat) / (r.den:Rat),(r.im:Rat) / (r.den:Rat)⟩
def ratI(r:RatV):Prop:=(-9223372036854775808<=r.re/\r.re<=9223372036854775807)/\(-9223372036854775808<=r.im/\r.im<=9223372036854775807)/\(-9223372036854775808<=r.den/\r.den<=9223372036854775807)
theorem z0a{V:View}{r:RatV}(h:ratI r):a00 prog s0o #[r.val] V λv V'=>∃x:NumV,v=x.val/\N00 V' x (ratQ r):=by
 obtain⟨⟨a1,a2⟩,⟨b1,b2⟩,⟨c1,c2⟩⟩:=h
 refine A0n r V _ ⟨λh0 => ?_,λh0 => ?_⟩
 . have h0:r.den=0:=by simpa using h0
   refine(A0d a1 a2 b1 b2 (by omega) (by omega) (by omega)).mono λv V1 _ ⟨x,hv,hx⟩=>⟨x,0,hv,x,rfl,?_⟩
   have e:ratQ r=⟨(r.re:Rat) / ((1:Int):Rat),(r.im:Rat) / ((1:Int):Rat)⟩:=by
    unfold ratQ; rw[if_pos h0]; simp only[Rat.div_def,Cq.mk.injEq]; constructor<;>grind
   rw[e]; exact hx
 . have h0:r.den≠0:=by simpa using h0
   refine(A0d a1 a2 b1 b2 c1 c2 h0).mono λv V1 _ ⟨x,hv,hx⟩=>⟨x,0,hv,x,rfl,?_⟩
   unfold ratQ; rw[if_neg h0]; exact hx
theorem A0b(r:NumV):∀v∈[Value.bool r.re.neg,r.re.mag.v,Value.bool r.im.neg,r.im.mag.v,r.under.v],Value.oneCell' v=true:=by
 intro v hv
 simp only[List.mem_cons,List.not_mem_nil,or_false]at hv
 rcases hv with rfl|rfl|rfl|rfl|rfl<;>rfl
theorem d0f{V:View}{b:Nat}{l:List Value}(h:V b=some l.toArray):V.has (some (Addr.mk b 0 none)) l:=by
 intro j v hj
 rw[D07 h]; simpa using hj
end Go.Proofs.YtjadnpidefnpoaaGreat
namespace Go.Proofs.YtjadnpidefnpoaaGreat
open Go Go.Vc Go.Proofs Go.ChangeShapes Go.RowKit
section
variable {H:Type} {enc:TypeId×Value->H} {P:Program} {w:World} {base:Nat} {spare:Nat->Bool} {held:Bool}
end
theorem a00.fits{P:Program}{f:FuncId}{args:Array Value}{r:Value}{V:View}(h:a00 P f args V λv _=>v=r){w:World}(hw:V.In w) :
 Calls P f args w λe w'=>e = .returned r/\Below w.heap.size w w' :=
 (h w hw).mono λ_ _ ⟨_,_,he,_,_,_,hb,hr⟩=>⟨by rw[he,hr],hb⟩
theorem u0c{H:Type}{enc:TypeId×Value->H}{P:Program}(hl:laidOutB P=true){W W':World}(hb:Below W.heap.size W W') :
 ∀ {ts:List TypeId} {vs:List Value} {ds:List (DataW H)} {ps:List MemPlace},(∀t∈ts,P.readableRec t=true/\t<P.types.size)->(∀p∈ps,p.block<W.heap.size) ->
 DataW.TrodAll enc P W 0 (λ_=>true) true ts vs ds ps->DataW.TrodAll enc P W' 0 (λb=>decide (b<W.heap.size)) true ts vs ds ps
 | [],[],[],_,_,_,h=>h
 | t::ts,v::vs,d::ds,ps,ht,hlt,⟨p,q,h1,h2,e⟩=>by
   subst e
   exact⟨p,q,Below.trod hl (ht t (by simp)).1 (ht t (by simp)).2 h1 hb (λx hx=>hlt x (by simp[hx])),
    u0c hl hb (λt' ht'=>ht t' (by simp[ht'])) (λx hx=>hlt x (by simp[hx])) h2,rfl⟩
 | [],[],_::_,_,_,_,h=>h.elim
 | [],_::_,_,_,_,_,h=>h.elim
 | _::_,[],_,_,_,_,h=>h.elim
 | _::_,_::_,[],_,_,_,h=>h.elim
theorem C0j{H:Type}{enc:TypeId×Value->H}{P:Program}{f:Func}{s:ChangeSpec}{apart fresh handsOn:Bool}{W W':World}{args:Array Value}{v:Value}{ds:List (DataW H)}{before:List MemPlace}
 (hl:laidOutB P=true) (ht:∀t∈f.params.toList,P.readableRec t=true/\t<P.types.size)
 (hW:DataW.Whole enc P f.params.toList s.vars apart W args.toList ds [] before) (hA:DataW.TrodAll enc P W 0 (λ_=>true) true f.params.toList args.toList ds before)
 (hres:∀(b:Nat) (sp:Nat->Bool) (hd:Bool),DataW.TrodAll enc P W' b sp hd f.resultTypes.toList (v.resultList f.resultTypes.size) (s.fn H (ds++[])).results [])
 (hargs:(s.fn H (ds++[])).args=ds) (hvars:∀sp:Nat->Bool,DataW.TrodVars enc P W' sp s.vars (s.fn H (ds++[])).vars []) (hb:Below W.heap.size W W'):s.post enc P f apart fresh handsOn false W args v W':=by
 refine⟨ds,[],before,[],before,[],hW,hres _ _ _,?_,hvars _,World.keptBut_mono (λp hp=>⟨hp,.inr (.inl hp)⟩) (hb.frame (·∈before)),λh=>Bool.noConfusion h⟩
 rw[hargs]
 exact u0c hl hb ht (λp hp=>hW.lt p hp) hA
inductive FK where
 | int (k:IntKind)
 | bool
def FK.ok:FK->Value->Prop
 | .int k,v=>∃n,v = .int k n/\(Lit.int k n).wf=true
 | .bool,v=>∃b,v = .bool b
def Y09:List FK->List Value->Prop
 | [],[]=>True
 | f::fs,v::vs=>f.ok v/\Y09 fs vs
 | _,_=>False
theorem Y09.append:∀ {l l':List FK} {v v':List Value},Y09 l v->Y09 l' v'->Y09 (l++l') (v++v')
 | [],_,[],_,_,h=>h
 | _::_,_,_::_,_,⟨h1,h2⟩,h=>⟨h1,Y09.append h2 h⟩
 | [],_,_::_,_,h,_=>h.elim
 | _::_,_,[],_,h,_=>h.elim
def D0j(P:Program)(F:TypeId->Option (List FK)):List Field->Nat->Option (List FK)
 | [],_=>some []
 | f::fs,off=>match F f.type,D0j P F fs (off+P.cellsOf f.type)with
   | some l,some r=>if f.offset=off/\l.length=P.cellsOf f.type then some (l++r)else none
   | _,_=>none
def T0h(P:Program):Nat->TypeId->Option (List FK)
 | 0,_=>none
 | d+1,t=>match P.underlying t with
   | some (.int k)=>some [.int k]
   | some .bool=>some [.bool]
   | some (.struct fs) => match D0j P (T0h P d) fs.toList 0 with
     | some l=>if l.length=P.cellsOf t then some l else none
     | none=>none
   | some (.array n e) => match T0h P d e with
     | some l=>if l.length=P.cellsOf e/\n*l.length=P.cellsOf t then some (List.replicate n l).flatten else none
     | none=>none
   | _=>none
section
variable {H:Type} {enc:TypeId×Value->H} {P:Program} {w:World} {base:Nat} {spare:Nat->Bool} {held:Bool}
theorem e0f{F:TypeId->Option (List FK)}{n:Nat}(hF:∀t l cs x,F t=some l->DataW.trod enc P w base spare held n t cs=some x->Y09 l cs){cs:List Value}{xs:List (DataW H×List MemPlace)}{all:List Field}(hxs:xs.length=all.length)
 (hf:∀(i:Nat) (f:Field),all[i]?=some f->DataW.trod enc P w base spare held n f.type ((cs.drop f.offset).take (P.cellsOf f.type))=xs[i]?) :
 ∀(fs pre:List Field) (off:Nat) (l:List FK),all=pre++fs->D0j P F fs off=some l->cs.length=off+l.length->Y09 l (cs.drop off)
 | [],pre,off,l,he,h,hl=>by
   simp only[D0j,Option.some.injEq]at h
   subst h
   rw[List.drop_eq_nil_of_le (by simp at hl; omega)]; trivial
 | f::fs,pre,off,l,he,h,hl=>by
   simp only[D0j]at h
   split at h
   . rename_i l1 r h1 h2
     split at h
     . rename_i hc
       obtain⟨rfl,hlen⟩:=hc
       simp only[Option.some.injEq]at h
       subst h
       have hi:all[pre.length]?=some f:=by rw[he]; simp
       have g:=hf _ f hi
       have hx:pre.length<xs.length:=by rw[hxs,he]; simp
       rw[List.getElem?_eq_getElem hx]at g
       have a1:=hF _ _ _ _ h1 g
       have a2:=e0f hF hxs hf fs (pre++[f]) (f.offset+P.cellsOf f.type) r (by rw[he]; simp) h2 (by rw[List.length_append]at hl; omega)
       have e:cs.drop f.offset=(cs.drop f.offset).take (P.cellsOf f.type)++cs.drop (f.offset+P.cellsOf f.type):=by
        rw[<-List.drop_drop,List.take_append_drop]
       rw[e]; exact a1.append a2
     . simp at h
   . simp at h
theorem T0a:∀(d:Nat) (fuel:Nat) (t:TypeId) (l:List FK) (cs:List Value) (x:DataW H×List MemPlace),T0h P d t=some l->DataW.trod enc P w base spare held fuel t cs=some x->Y09 l cs
 | 0,_,_,_,_,_,h,_=>by simp[T0h]at h
 | d+1,fuel,t,l,cs,x,h,hx=>by
   simp only[T0h]at h
   split at h
   . rename_i k hu
     obtain⟨n,rfl,_,hw⟩:=DataW.trod_int hu hx
     simp only[Option.some.injEq]at h
     subst h
     exact⟨⟨n,rfl,hw⟩,trivial⟩
   . rename_i hu
     obtain⟨b,rfl,_⟩:=DataW.trod_bool hu hx
     simp only[Option.some.injEq]at h
     subst h
     exact⟨⟨b,rfl⟩,trivial⟩
   . rename_i fs hu
     obtain⟨xs,n,rfl,_,hl,hxs,hf⟩:=DataW.trod_struct hu hx
     split at h
     . rename_i l1 h1
       split at h
       . rename_i hc
         simp only[Option.some.injEq]at h
         subst h
         have:=e0f (F:=T0h P d) (λt l cs x h1 h2=>T0a d n t l cs x h1 h2) (all:=fs.toList) (by simpa using hxs) (λi f hi=>hf i f (by simpa using hi)) fs.toList [] 0 l1 rfl h1 (by omega)
         simpa using this
       . simp at h
     . simp at h
   . rename_i n e hu
     obtain⟨xs,m,rfl,_,hl,hxs,hf⟩:=DataW.trod_array hu hx
     split at h
     . rename_i l1 h1
       split at h
       . rename_i hc
         obtain⟨c1,c2⟩:=hc
         simp only[Option.some.injEq]at h
         subst h
         have key:∀j,j<=n->Y09 (List.replicate j l1).flatten (cs.take (j*P.cellsOf e)):=by
          intro j
          induction j with
          | zero=>intro _; simp; trivial
          | succ j ih =>
            intro hj
            have a1:=ih (by omega)
            have g:=hf j (by omega)
            rw[List.getElem?_eq_getElem (by omega:j<xs.length)]at g
            have a2:=T0a d m e l1 _ _ h1 g
            have e1:cs.take ((j+1)*P.cellsOf e)=cs.take (j*P.cellsOf e)++(cs.drop (j*P.cellsOf e)).take (P.cellsOf e):=by
             rw[Nat.add_mul,Nat.one_mul,List.take_add]
            have e2:(List.replicate (j+1) l1).flatten=(List.replicate j l1).flatten++l1:=by
             rw[List.replicate_succ']; simp
            rw[e1,e2]; exact a1.append a2
         have:=key n (Nat.le_refl _)
         rw[List.take_of_length_le (by rw[hl,<-c2,c1]; exact Nat.le_refl _)]at this
         exact this
       . simp at h
     . simp at h
   . simp at h
theorem j0p{t:TypeId}{v:Value}{dd:DataW H}{ps:List MemPlace}{l:List FK}(hk:T0h P 8 t=some l)(h:DataW.Trod enc P w base spare held t v dd ps):Y09 l v.cells.toList:=by
 obtain⟨fuel,h⟩:=h
 exact T0a 8 fuel t l _ _ hk h
end
theorem E0j{v:Value}{l:List Value}(h:v.cells.toList=l)(hl:l.length≠1):v = .agg l.toArray:=by
 cases v with
 | agg cs => have : cs.toList = l := h
             rw[<-this]
 | _=>exact absurd (by rw[<-h]; rfl) hl
def l06(w:World):View:=λb=>match w.heap[b]? with|some (.cells cs _ _)=>some cs|_=>none
theorem F0j(w:World):(l06 w).In w:=by
 intro i cs hi
 unfold l06 at hi
 split at hi
 . rename_i cs' T fr hw
   simp at hi; subst hi
   exact⟨T,fr,hw⟩
 . simp at hi
theorem W0f{w:World}{p:Addr}{v:Value}(h:w.cell? p=some v):(l06 w).load (some p)=some v:=by
 unfold World.cell? at h
 unfold View.load l06
 split at h
 . rename_i c T fr hw
   simp only[hw]
   split at h
   . simp at h
   . rename_i hs
     simp only[hs]
     simpa using h
 . simp at h
section
variable {H:Type} {enc:TypeId×Value->H} {P:Program} {w:World} {base:Nat} {spare:Nat->Bool} {held:Bool}
theorem k0p{α:Type}{sz:Nat}{t e:TypeId}(ht:P.underlying t=some (.slice e))(hc:P.cellsOf e=sz)(ok:α->Prop)(E:View->List Value->α->Prop)
 (he:∀ {fuel:Nat} {cs:List Value} {x:DataW H×List MemPlace},DataW.trod enc P w base spare held fuel e cs=some x->∃z,ok z/\E (l06 w) cs z)
 {fuel:Nat} {cs:List Value} {x:DataW H×List MemPlace} (h:DataW.trod enc P w base spare held fuel t cs=some x) :
 ∃(s:Sl) (zs:List α),cs=[s.v]/\I00 sz E (l06 w) s zs/\zs.length<=maxLen/\∀z∈zs,ok z:=by
 rcases Go.Deep.open_slice ht h with⟨h1,_⟩|⟨a,l0,c0,m,n,D,Pl,h1,_,hl,hm,hmm,_,hx⟩
 . subst h1
   exact⟨Sl.mk none 0 0,[],rfl,I00.nil,Nat.zero_le _,by intro r hr; simp at hr⟩
 . subst h1
   have hlm:l0<=m:=by rw[hmm]; split<;>omega
   have key:∀k,k<=l0->∃(rs:List α) (o:List Value),rs.length=k/\(∀r∈rs,ok r)/\s01 sz E (l06 w) o rs/\(l06 w).has (some a) o:=by
    intro k
    induction k with
    | zero=>intro _; exact⟨[],[],rfl,by intro r hr; simp at hr,rfl,by intro j v hj; simp at hj⟩
    | succ k ih =>
      intro hk
      obtain⟨rs,o,hrl,hri,hcs,ho⟩:=ih (by omega)
      obtain⟨cs',g1,g2⟩:=hx k (by omega)
      obtain⟨r,hr,er⟩:=he g2
      rw[hc]at g1
      obtain⟨_,hcl,hcell⟩:=World.cells?_some g1
      have hol:=hcs.length
      refine⟨rs++[r],o++cs',by simp[hrl],?_,hcs.append (s01.one hcl er),?_⟩
      . intro x hx
        rcases List.mem_append.1 hx with h|h
        . exact hri x h
        . simp at h; subst h; exact hr
      . intro j v hj
        by_cases hjo:j<o.length
        . rw[List.getElem?_append_left hjo]at hj
          exact ho j v hj
        . rw[List.getElem?_append_right (by omega)]at hj
          have hj3:j-o.length<sz:=by
           rcases Nat.lt_or_ge (j-o.length) cs'.length with h|h
           . omega
           . rw[List.getElem?_eq_none h]at hj; simp at hj
          have hcj:=hcell (j-o.length) hj3
          rw[hj,c0c]at hcj
          have e:k*sz+(j-o.length)=j:=by rw[hol,hrl]; rw[hol,hrl]at hjo; omega
          rw[e]at hcj
          exact W0f hcj
   obtain⟨rs,o,hrl,hri,hcs,ho⟩:=key l0 (Nat.le_refl _)
   exact⟨Sl.mk (some a) l0 c0,rs,rfl,⟨hrl.symm,hl,λ_=>rfl,o,ho,hcs⟩,by omega,hri⟩
theorem G0j{v x:Value}(h:v.cells.toList=[x])(hv:∃a l c,v = .slice a l c):v=x:=by
 obtain⟨a,l,c,rfl⟩:=hv
 simpa [Value.cells]using h
end
end Go.Proofs.YtjadnpidefnpoaaGreat
namespace Go.Proofs.YtjadnpidefnpoaaGreat
open Go Go.Vc Go.Proofs
theorem L0n{V:View}{b:Nat}(hb:V b=some #[.int .u32 1]):X00 V ⟨some ⟨b,0,none⟩,1,1⟩ 1:=by
 have:dig 1=[1]:=by rw[g05 (by omega)]; simp[Y03]
 unfold X00; rw[this]
 exact H01.of_block (by rw[hb]; rfl) rfl (Nat.le_refl _) (by intro d hd; simp at hd; omega)
theorem u0s:wn 1<=2^43:=wn64 (by omega)
theorem W0q{z:Cq}:z.A=0↔z.re=0:=by
 have h:=z.canon.rep
 have hD:=u04 h.pos
 rw[h.re]
 constructor
 . intro e; rw[e]; simp[Rat.div_def]
 . intro e
   have:(z.A:Rat)=0:=by
    have:(z.A:Rat)=(z.A:Rat) / (z.D:Rat)*(z.D:Rat):=by rw[Rat.div_mul_cancel hD]
    rw[this,e]; simp
   exact_mod_cast this
theorem B_zero{z:Cq}:z.B=0↔z.im=0:=by
 have h:=z.canon.rep
 have hD:=u04 h.pos
 rw[h.im]
 constructor
 . intro e; rw[e]; simp[Rat.div_def]
 . intro e
   have:(z.B:Rat)=0:=by
    have:(z.B:Rat)=(z.B:Rat) / (z.D:Rat)*(z.D:Rat):=by rw[Rat.div_mul_cancel hD]
    rw[this,e]; simp
   exact_mod_cast this
theorem E08{V:View}{x:NumV}{z:Cq}(h:N00 V x z)(hz:z.sz<=2^40):a00 Tryz.prog B0e #[x.val] V λv _=>v = .bool (decide (z≠Cq.zero)):=by
 have zA:=Cq.wA hz; have zB:=Cq.wB hz
 refine Z0i x V _ ?_
 have a1:=h.re.2.len; have a2:=h.im.2.len
 have b1:=h.re.2.len_zero; have b2:=h.im.2.len_zero
 have c1:x.re.mag.len<=2^50:=by
  have:x.re.mag.len=wn z.A.natAbs:=by rw[wn]; exact a1.symm▸rfl
  omega
 have c2:x.im.mag.len<=2^50:=by
  have:x.im.mag.len=wn z.B.natAbs:=by rw[wn]; exact a2.symm▸rfl
  omega
 rw[i64w (by omega) (by omega)]
 have d1:x.re.mag.len=0↔z.re=0:=by rw[b1,<-W0q]; omega
 have d2:x.im.mag.len=0↔z.im=0:=by rw[b2,<-B_zero]; omega
 have e:(z≠Cq.zero)↔((x.re.mag.len:Int)+(x.im.mag.len:Int)>0):=by
  constructor
  . intro hne
    rcases Nat.eq_zero_or_pos x.re.mag.len with p|p
    . rcases Nat.eq_zero_or_pos x.im.mag.len with q|q
      . exact absurd (Cq.ext' (d1.1 p) (d2.1 q)) hne
      . omega
    . omega
  . rintro hp rfl
    have p:=d1.2 rfl; have q:=d2.2 rfl
    omega
 simp only[e]
theorem Rep.div{z w:Cq}{A B a b:Int}{D d n:Nat}(hw:Rep w A B D)(ht:Rep (z*⟨(A:Rat),-(B:Rat)⟩) a b d)(hn:(n:Int)=A*A+B*B)(h0:n≠0):Rep (z.div w) (a*D) (b*D) (d*n):=by
 have hD:=u04 hw.pos
 have hd:=u04 ht.pos
 have hn0:=u04 h0
 have hN:(n:Rat)=(A:Rat)*A+B*B:=by exact_mod_cast hn
 have t1:=ht.re; have t2:=ht.im
 rw[f01]at t1; rw[i01]at t2
 dsimp only at t1 t2
 refine⟨Nat.mul_ne_zero ht.pos h0,?_,?_⟩
 . show(z.re*w.re+z.im*w.im) / (w.re*w.re+w.im*w.im)=_
   rw[hw.re,hw.im,Rat.intCast_mul,Rat.natCast_mul,Rat.intCast_natCast]
   have e1:z.re*((A:Rat) / (D:Rat))+z.im*((B:Rat) / (D:Rat))=(a:Rat) / (d:Rat) / (D:Rat):=by rw[<-t1]; grind
   have e2:(A:Rat) / (D:Rat)*((A:Rat) / (D:Rat))+(B:Rat) / (D:Rat)*((B:Rat) / (D:Rat))=(n:Rat) / ((D:Rat)*(D:Rat)):=by rw[hN]; grind
   rw[e1,e2]; grind
 . show(z.im*w.re-z.re*w.im) / (w.re*w.re+w.im*w.im)=_
   rw[hw.re,hw.im,Rat.intCast_mul,Rat.natCast_mul,Rat.intCast_natCast]
   have e1:z.im*((A:Rat) / (D:Rat))-z.re*((B:Rat) / (D:Rat))=(b:Rat) / (d:Rat) / (D:Rat):=by rw[<-t2]; grind
   have e2:(A:Rat) / (D:Rat)*((A:Rat) / (D:Rat))+(B:Rat) / (D:Rat)*((B:Rat) / (D:Rat))=(n:Rat) / ((D:Rat)*(D:Rat)):=by rw[hN]; grind
   rw[e1,e2]; grind
theorem e0d(A B:Int):Rep ⟨(A:Rat),-(B:Rat)⟩ A (-B) 1:=by
 refine⟨by omega,?_,?_⟩
 . rw[Rat.div_def]; simp; grind
 . rw[Rat.div_def]; simp; grind
theorem B0d{V:View}{x y:NumV}{z w:Cq}(hx:N00 V x z)(hy:N00 V y w)(hz:z.sz<=2^36)(hw:w.sz<=2^36) :
 a00 Tryz.prog F0i #[x.val,y.val] V λv V'=>∃(r:NumV) (e:Int),v = .tuple #[r.val,.int .i64 e]/\(w=Cq.zero->e=3/\N00 V' r Cq.zero)/\(w≠Cq.zero->e=0/\N00 V' r (z.div w)):=by
 have hw40:w.sz<=2^40:=by omega
 have wA:=Cq.wA hw40; have wB:=Cq.wB hw40; have wD:=Cq.wD hw40
 have sA:=w.szA; have sB:=w.szB; have sD:=w.szD
 refine B0n x y V _ ((E08 hy hw40).mono λv V1 l1 hv=>⟨_,hv,λhc => ?_,λhc => ?_⟩)
 . have hc:w=Cq.zero:=by simpa using hc
   exact⟨_,_,rfl,λ_=>⟨rfl,N00.zero V1⟩,λh=>absurd hc h⟩
 have hc:w≠Cq.zero:=by simpa using hc
 replace hx:=hx.le l1; replace hy:=hy.le l1
 have m1:=s05 wA wA; have m2:=s05 wB wB
 refine(d04 hy.re hy.re (by omega) (by omega)).mono λv V2 l2 ⟨r2,hv,h2⟩=>⟨r2,hv,?_⟩
 replace hx:=hx.le l2; replace hy:=hy.le l2
 refine(d04 hy.im hy.im (by omega) (by omega)).mono λv V3 l3 ⟨r3,hv,h3⟩=>⟨r3,hv,?_⟩
 replace hx:=hx.le l3; replace hy:=hy.le l3; replace h2:=h2.le l3
 refine(x04 h2 h3 (by omega) (by omega)).mono λv V4 l4 ⟨r4,hv,h4⟩=>⟨r4,hv,?_⟩
 replace hx:=hx.le l4; replace hy:=hy.le l4
 refine(P02 hy.im).mono λv V5 l5 ⟨r5,hv,h5⟩=>⟨r5,hv,λb1 V6 l6 _ hb1 => ?_⟩
 replace hx:=hx.le (View.le_trans l5 l6); replace hy:=hy.le (View.le_trans l5 l6); replace h4:=h4.le (View.le_trans l5 l6); replace h5:=h5.le l6
 refine(J04 hy.re h5 (L0n hb1) (e0d w.A w.B) (by omega) (by rw[Int.natAbs_neg]; omega) u0s).mono λv V7 l7 ⟨r6,hv,h6⟩=>⟨r6,hv,?_⟩
 replace hx:=hx.le l7; replace hy:=hy.le l7; replace h4:=h4.le l7
 have cs:(⟨(w.A:Rat),-(w.B:Rat)⟩:Cq).sz<=2^36+1:=(e0d w.A w.B).sz (by omega) (by rw[Int.natAbs_neg]; omega) (by rw[N0o]; omega)
 refine(y02 hx h6 (by omega) (by omega)).mono λv V8 l8 ⟨r7,hv,h7⟩=>⟨r7,hv,?_⟩
 replace hy:=hy.le l8; replace h4:=h4.le l8
 have ts:=U01 z ⟨(w.A:Rat),-(w.B:Rat)⟩
 have ts40:(z*⟨(w.A:Rat),-(w.B:Rat)⟩).sz<=2^40:=by omega
 have tA:=Cq.wA ts40; have tB:=Cq.wB ts40; have tD:=Cq.wD ts40
 refine(j02 hy).mono λv V9 l9 ⟨r8,hv,h8⟩=>⟨r8,hv,?_⟩
 replace hy:=hy.le l9; replace h4:=h4.le l9; replace h7:=h7.le l9
 refine(O01 h7.re h8 (by omega) (by omega)).mono λv V10 l10 ⟨r9,hv,h9⟩=>⟨r9,hv,?_⟩
 replace hy:=hy.le l10; replace h4:=h4.le l10; replace h7:=h7.le l10
 refine(j02 hy).mono λv V11 l11 ⟨r10,hv,h10⟩=>⟨r10,hv,?_⟩
 replace h4:=h4.le l11; replace h7:=h7.le l11; replace h9:=h9.le l11
 refine(O01 h7.im h10 (by omega) (by omega)).mono λv V12 l12 ⟨r11,hv,h11⟩=>⟨r11,hv,?_⟩
 replace h4:=h4.le l12; replace h7:=h7.le l12; replace h9:=h9.le l12
 refine(j02 h7).mono λv V13 l13 ⟨r12,hv,h12⟩=>⟨r12,hv,?_⟩
 replace h4:=h4.le l13; replace h9:=h9.le l13; replace h11:=h11.le l13
 have n1:=c0f m1 m2
 refine(Y06 h12 h4.2 (by omega) (by omega)).mono λv V14 l14 ⟨r13,hv,h13⟩=>⟨r13,hv,?_⟩
 replace h9:=h9.le l14; replace h11:=h11.le l14
 have p1:=Z0b (z*⟨(w.A:Rat),-(w.B:Rat)⟩).D (w.A*w.A+w.B*w.B).natAbs
 have q1:=s05 tA (b:=(w.D:Int)) (by rw[Int.natAbs_natCast]; exact wD)
 have q2:=s05 tB (b:=(w.D:Int)) (by rw[Int.natAbs_natCast]; exact wD)
 have hsq:(0:Int)<=w.A*w.A+w.B*w.B:=Int.add_nonneg (by rw[<-Int.natAbs_mul_self]; exact Int.natCast_nonneg _) (by rw[<-Int.natAbs_mul_self]; exact Int.natCast_nonneg _)
 refine(J04 h9 h11 h13 (Rep.div w.canon.rep (z*⟨(w.A:Rat),-(w.B:Rat)⟩).canon.rep (Int.natAbs_of_nonneg hsq) ?_) (by omega) (by omega) (by omega)).mono λv V15 _ ⟨r,hv,hr⟩=>⟨r,hv,r,_,rfl,λh=>absurd h hc,λ_=>⟨rfl,hr⟩⟩
 intro h0
 have e0:w.A*w.A+w.B*w.B=0:=Int.natAbs_eq_zero.1 h0
 have a0:w.A=0:=by
  by_cases h:w.A=0
  . exact h
  . have:0<w.A*w.A:=by
      have:0<w.A.natAbs*w.A.natAbs:=Nat.mul_pos (by omega) (by omega)
      rw[<-Int.natAbs_mul_self]; exact_mod_cast this
    have:(0:Int)<=w.B*w.B:=by rw[<-Int.natAbs_mul_self]; exact Int.natCast_nonneg _
    omega
 have b0:w.B=0:=by
  rw[a0]at e0
  have:w.B*w.B=0:=by omega
  rcases Int.mul_eq_zero.1 this with h|h<;>exact h
 exact hc (Cq.ext' (W0q.1 a0) (B_zero.1 b0))
theorem Y0l{z w:Cq}{S:Nat}(hz:z.sz<=S)(hw:w.sz<=S):(z.div w).sz<=4*S+8:=by
 have sA:=w.szA; have sB:=w.szB; have sD:=w.szD
 have cs:(⟨(w.A:Rat),-(w.B:Rat)⟩:Cq).sz<=S+1:=(e0d w.A w.B).sz (by omega) (by rw[Int.natAbs_neg]; omega) (by rw[N0o]; omega)
 have ts:=U01 z ⟨(w.A:Rat),-(w.B:Rat)⟩
 have tA:=(z*⟨(w.A:Rat),-(w.B:Rat)⟩:Cq).szA; have tB:=(z*⟨(w.A:Rat),-(w.B:Rat)⟩:Cq).szB; have tD:=(z*⟨(w.A:Rat),-(w.B:Rat)⟩:Cq).szD
 have hsq:(0:Int)<=w.A*w.A+w.B*w.B:=Int.add_nonneg (by rw[<-Int.natAbs_mul_self]; exact Int.natCast_nonneg _) (by rw[<-Int.natAbs_mul_self]; exact Int.natCast_nonneg _)
 by_cases h0:(w.A*w.A+w.B*w.B).natAbs=0
 . have:z.div w=Cq.zero:=by
     have hr:=w.canon.rep
     have e0:w.A*w.A+w.B*w.B=0:=Int.natAbs_eq_zero.1 h0
     have hn:w.norm=0:=by
      unfold Cq.norm
      rw[hr.re,hr.im]
      have:(w.A:Rat)*w.A+w.B*w.B=0:=by exact_mod_cast e0
      have hD:=u04 hr.pos
      grind
     refine Cq.ext' ?_ ?_
     . show _ / w.norm=0; rw[hn]; simp[Rat.div_def]
     . show _ / w.norm=0; rw[hn]; simp[Rat.div_def]
   rw[this]; have:=x06; omega
 . refine(Rep.div w.canon.rep (z*⟨(w.A:Rat),-(w.B:Rat)⟩).canon.rep (Int.natAbs_of_nonneg hsq) h0).sz ?_ ?_ ?_
   . have:=e07 (z*⟨(w.A:Rat),-(w.B:Rat)⟩).A (w.D:Int); rw[Int.natAbs_natCast]at this; omega
   . have:=e07 (z*⟨(w.A:Rat),-(w.B:Rat)⟩).B (w.D:Int); rw[Int.natAbs_natCast]at this; omega
   . have h1:=F0l (z*⟨(w.A:Rat),-(w.B:Rat)⟩).D (w.A*w.A+w.B*w.B).natAbs
     have h2:=S0e (a:=w.A*w.A) (b:=w.B*w.B) (k:=2*S) (Nat.le_trans (e07 _ _) (by omega)) (Nat.le_trans (e07 _ _) (by omega))
     omega
def okN(z:Cq):Prop:=z.sz<=2^36
def atN(V:View)(n:NumV)(z:Cq):Prop:=N00 V n z
theorem atN.le{V V':View}(h:V.le V'){n:NumV}{z:Cq}(k:atN V n z):atN V' n z:=N00.le h k
theorem elN{V:View}{x:List Value}{z:Cq}(h:numC V x z):∃n:NumV,x=n.val.cells.toList/\atN V n z:=h
theorem l0p{V:View}{n:NumV}{z:Cq}(h:atN V n z):numC V n.val.cells.toList z:=⟨n,rfl,h⟩
theorem lenN(n:NumV):n.val.cells.toList.length=5:=rfl
theorem oneN{V:View}{x:List Value}{z:Cq}(h:numC V x z):∀v∈x,Value.oneCell' v=true:=by
 obtain⟨n,e,_⟩:=h
 subst e
 intro v hv
 rw[O0o]at hv
 simp only[List.mem_cons,List.not_mem_nil,or_false]at hv
 rcases hv with rfl|rfl|rfl|rfl|rfl<;>rfl
theorem L0s(V:View):numC V [Value.bool false,Value.slice none 0 0,Value.bool false,Value.slice none 0 0,Value.slice none 0 0] Cq.zero:=⟨_,rfl,N00.zero V⟩
theorem w0s{V:View}{n:NumV}{z:Cq}(h:atN V n z)(hz:okN z):a00 Tryz.prog B0e #[n.val] V λv _=>v = .bool (numO.clr z):=E08 h (by unfold okN at hz; omega)
theorem divN{V:View}{n k:NumV}{z w:Cq}(h:atN V n z)(h':atN V k w)(hz:okN z)(hw:okN w)(hc:numO.clr w=true) :
 a00 Tryz.prog F0i #[n.val,k.val] V λv V'=>∃r:NumV,v = .tuple #[r.val,.int .i64 0]/\atN V' r (numO.div z w):=by
 refine(B0d h h' hz hw).mono λv V' _ ⟨r,e,hv,_,h2⟩ => ?_
 obtain⟨g1,g2⟩:=h2 (c0e.1 hc)
 subst g1
 exact⟨r,hv,g2⟩
theorem m0p{x y u:Cq}(hx:okN x)(hy:okN y)(hu:okN u):(Cq.div x y).sz<=4*2^36+8/\(Cq.div x y*u).sz<=5*2^36+9:=by
 have h1:=Y0l hx hy
 have h2:=U01 (Cq.div x y) u
 unfold okN at hu
 omega
theorem M0s{V:View}{n k:NumV}{x y u:Cq}(h:atN V n (numO.div x y))(h':atN V k u)(hx:okN x)(hy:okN y)(hu:okN u) :
 a00 Tryz.prog C0e #[n.val,k.val] V λv V'=>∃r:NumV,v=r.val/\atN V' r (numO.mul (numO.div x y) u):=by
 have hs:=m0p hx hy hu
 exact y02 (z:=Cq.div x y) (w:=u) h h' (by omega) (by unfold okN at hu; omega)
theorem N0s{V:View}{n k:NumV}{z x y u:Cq}(h:atN V n z)(h':atN V k (numO.mul (numO.div x y) u))(hz:okN z)(hx:okN x)(hy:okN y)(hu:okN u) :
 a00 Tryz.prog E0e #[n.val,k.val] V λv V'=>∃r:NumV,v=r.val/\atN V' r (numO.sub z (numO.mul (numO.div x y) u)):=by
 have hs:=m0p hx hy hu
 exact E04 (z:=z) (w:=Cq.div x y*u) h h' (by unfold okN at hz; omega) (by omega)
theorem mulN{V:View}{n k:NumV}{x y:Cq}(h:atN V n x)(h':atN V k y)(hx:okN x)(hy:okN y) :
 a00 Tryz.prog C0e #[n.val,k.val] V λv V'=>∃r:NumV,v=r.val/\atN V' r (numO.mul x y) :=
 y02 (z:=x) (w:=y) h h' (by unfold okN at hx; omega) (by unfold okN at hy; omega)
theorem subN{V:View}{n k:NumV}{x y z:Cq}(h:atN V n x)(h':atN V k (numO.mul y z))(hx:okN x)(hy:okN y)(hz:okN z) :
 a00 Tryz.prog E0e #[n.val,k.val] V λv V'=>∃r:NumV,v=r.val/\atN V' r (numO.sub x (numO.mul y z)):=by
 have:=U01 y z
 unfold okN at hx hy hz
 exact E04 (z:=x) (w:=y*z) h h' (by omega) (by omega)
theorem M0d{V:View}{s:Sl}{p:Option Addr}{k:Nat}(hp:V.load p=some (.int .i64 (k:Int))) :
 a00 Tryz.prog q04 #[s.v,.pointer p] V λv _=>v = .bool (decide (s.len≠k)):=by
 refine w08 s p V _ ⟨_,hp,?_⟩
 congr 1
 by_cases e:s.len=k
 . subst e; simp
 . simp[e]; omega
theorem w0c{V:View}{p:Sl}{rows:List (List Cq)}(h:S07 5 numC V p rows)(hn:rows.length<=2^40)(q:Fn1){k:Nat}(hp:V.load q.p0=some (.int .i64 (k:Int))) :
 a00 Tryz.prog Q04 #[p.v,q.val q04] V λv _=>∃r:Int,v = .int .i64 r/\(0<=r↔∃row,row∈rows/\row.length≠k):=by
 have hl:p.len=rows.length:=h.len
 refine x02 p q V _ (λ_ x _=>∃t:Nat,x.t8=t/\t<=rows.length/\∀row,row∈rows.take t->row.length=k) (λ_ x _=>rows.length-x.t8.toNat) ⟨⟨0,rfl,by omega,by simp⟩,?_⟩
 rintro⟨t⟩ V1 l1 ⟨t',ht,htn,hi⟩
 dsimp only at ht ⊢
 subst ht
 refine⟨λhlt => ?_,λhge => ?_⟩
 . simp only[decide_eq_true_eq]at hlt
   have hk:t'<rows.length:=by omega
   obtain⟨g1,s,g2,g3⟩:=(h.le numC.le l1).row (t:=(t':Int)) (by omega) (row:=rows[t']) (by simp)
   refine⟨g1,s,g2,(M0d (Q02 l1 hp)).mono λv V2 l2 hv=>⟨_,hv,λhr=>⟨_,rfl,?_⟩,λhr => ?_⟩⟩
   . have hne:=of_decide_eq_true hr
     rw[g3.len]at hne
     exact⟨λ_=>⟨rows[t'],List.getElem_mem hk,hne⟩,λ_=>by omega⟩
   . have he:s.len=k:=by simpa using hr
     rw[g3.len]at he
     rw[i64w (by omega) (by omega)]
     refine⟨⟨t'+1,by omega,by omega,λrow hrow => ?_⟩,by omega⟩
     rw[List.take_add_one,List.getElem?_eq_getElem hk]at hrow
     simp only[Option.toList_some,List.mem_append,List.mem_singleton]at hrow
     rcases hrow with hrow|hrow
     . exact hi row hrow
     . subst hrow; exact he
 . simp only[decide_eq_false_iff_not]at hge
   have e:t'=rows.length:=by omega
   subst e
   rw[List.take_length]at hi
   exact⟨-1,rfl,λh=>absurd h (by omega),λ⟨row,h1,h2⟩=>absurd (hi row h1) h2⟩
theorem A0a{V:View}{p:Sl}{rows:List (List Cq)}(h:S07 5 numC V p rows)(hn:rows.length<=2^40)(q:Fn1){k:Nat}(hp:V.load q.p0=some (.int .i64 (k:Int))) :
 a00 Tryz.prog A04 #[p.v,q.val q04] V λv _=>v = .bool (rows.any λrow=>decide (row.length≠k)):=by
 refine k02 p q V _ ((w0c h hn q hp).mono λv V1 l1 ⟨r,hv,hr⟩=>⟨r,hv,?_⟩)
 congr 1
 rw[Bool.eq_iff_iff]
 simp only[ge_iff_le,decide_eq_true_eq,List.any_eq_true]
 exact hr
def f07(rows:List (List Cq)):Nat:=(rows.headD []).length
def f0f(rows:List (List Cq)):Bool:=rows.isEmpty||(decide (rows.length<=32)&&decide (f07 rows<=32) && !(rows.any λrow=>decide (row.length≠f07 rows)))
theorem n07{V:View}{p:Sl}{rows:List (List Cq)}(h:S07 5 numC V p rows)(hn:rows.length<=2^40) :
 a00 Tryz.prog T09 #[p.v] V λv _=>v = .tuple #[.int .i64 (f07 rows:Int),.bool (f0f rows)]:=by
 have hl:p.len=rows.length:=h.len
 refine p09 p V _ ⟨λh0 => ?_,λh0 => ?_⟩
 . have e:rows=[]:=List.length_eq_zero_iff.1 (by simp at h0; omega)
   subst e; rfl
 . have hne:0<rows.length:=by simp at h0; omega
   obtain⟨row,rest,e⟩:∃row rest,rows=row::rest:=by
    cases rows with
    | nil=>simp at hne
    | cons a l=>exact⟨a,l,rfl⟩
   obtain⟨g1,s,g2,g3⟩:=h.row (t:=(0:Int)) (by omega) (row:=row) (by subst e; rfl)
   refine⟨g1,s,g2,λb1 V1 l1 hb1 => ?_⟩
   have hld:V1.load (some (Addr.mk b1 0 none))=some (.int .i64 (s.len:Int)):=by
    have:=D07 (j:=0) hb1
    simpa [Addr.add]using this
   have hs:s.len=f07 rows:=by subst e; exact g3.len
   rw[hs]at hld
   have hE:rows.isEmpty=false:=by subst e; rfl
   refine⟨_,hld,λh1=>⟨_,hld,λh2 => ?_,λh2 => ?_⟩,λh1 => ?_⟩
   . simp only[decide_eq_true_eq]at h1 h2
     refine(A0a (h.le numC.le l1) hn ⟨some (Addr.mk b1 0 none)⟩ hld).mono λv V2 l2 hv=>⟨_,hv,?_⟩
     have e1:decide (rows.length<=32)=true:=by simp; omega
     have e2:decide (f07 rows<=32)=true:=by simp; omega
     simp only[f0f,hE,e1,e2,Bool.false_or,Bool.true_and]
   . simp only[decide_eq_false_iff_not]at h2
     have e2:decide (f07 rows<=32)=false:=by simp; omega
     simp only[f0f,hE,e2,Bool.false_or,Bool.and_false,Bool.false_and]
   . simp only[decide_eq_false_iff_not]at h1
     have e1:decide (rows.length<=32)=false:=by simp; omega
     simp only[f0f,hE,e1,Bool.false_or,Bool.false_and]
theorem B0a{V:View}{p:Sl}{rows:List (List Cq)}(h:S07 5 numC V p rows)(hn:rows.length<=2^40) :
 a00 Tryz.prog a06 #[p.v] V λv _=>v = .bool (f0f rows&&decide (f07 rows=rows.length)):=by
 have hl:p.len=rows.length:=h.len
 refine Z08 p V _ ((n07 h hn).mono λv V1 l1 hv=>⟨_,_,hv,λh1 => ?_,λh1 => ?_⟩)
 . rw[h1,Bool.true_and,hl]
   congr 1
   by_cases e:f07 rows=rows.length
   . simp[e]
   . simp[e]; omega
 . rw[h1,Bool.false_and]
theorem O0s{V:View}{o:List Value}{row:List Cq}(h:s01 5 numC V o row):∀v∈o,Value.oneCell' v=true:=by
 induction row generalizing o with
 | nil=>rw[show o=[]from h]; simp
 | cons z zs ih =>
   obtain⟨x,o',e,hx,hp,ht⟩:=h
   subst e
   intro v hv
   rw[List.mem_append]at hv
   rcases hv with hv|hv
   . exact oneN hp v hv
   . exact ih ht v hv
theorem x0c{m V:View}{s:Sl}{row:List Cq}{o:List Value}(hC:s01 5 numC V o row)(ho:has2 m V s.a o)(hl:s.len=row.length)(ha:s.a=none->row=[])(hb:row.length<=2^30) :
 y01 Tryz.prog Z05 #[s.v] m V λv m' V'=>∃(r:Sl) (b:Nat),v=r.v/\RowR 5 numC m' V' r b row/\(row≠[]->m b=none)/\(∀i,i≠b\/row=[]->m' i=m i):=by
 refine Q05 m s V _ ⟨trivial,λh => ?_,λh b1 V1 l1 hf hb1 => ?_⟩
 . have e:=ha (by simpa using h)
   exact⟨⟨none,0,0⟩,0,rfl,⟨by rw[e]; rfl,Nat.le_refl _,λ_=>rfl,λh=>absurd e h⟩,λh=>absurd e h,λ_ _=>rfl⟩
 . have hol:=hC.length
   refine⟨[],o,⟨Nat.le_refl _,λh=>by simp at h⟩,.inl (by intro j v hj; simp at hj),by simp,k0e l1 ho,by rw[hol,hl],O0s hC,by unfold maxLen; omega,by omega,λh1 h2=>by omega,λa1 c1 m1 ha1 => ?_⟩
   have hC1:s01 5 numC V1 o row:=hC.imp (numC.le l1)
   obtain⟨b,hr,hb2,hm,hm2⟩:=S0n hC1 rfl hl ha1
   exact⟨_,b,rfl,hr,hb2,λi hi=>by
    rcases hi with hi|hi
    . exact hm i hi
    . rw[hm2 hi]⟩
def o05(A:Nat->Nat->Cq)(w:Nat)(C:Nat->Nat->Cq):Nat->Nat->Cq:=λi k=>if k<w then A i k else C (k-w) i
theorem B0b{V:View}{p q:Sl}{n w u:Nat}{A C:Nat->Nat->Cq}(h:S07 5 numC V p (matL n w A))(hq:S07 5 numC V q (matL u n C))(hn:n<=2^20)(hw:w<=2^20)(hu:u<=2^20) :
 y01 Tryz.prog g0a #[p.v,q.v] (λ_=>none:View) V λv m' V'=>∃r:Sl,v=r.v/\MatR 5 numC m' V' r n (w+u) (o05 A w C):=by
 have hl:p.len=n:=by have:=h.len; rw[Q01]at this; exact this
 have hql:q.len=u:=by have:=hq.len; rw[Q01]at this; exact this
 refine W09 (λ_=>none) p q V _ (λ_ x V'=>∃t:Nat,x.t15=t/\t<=n/\x.o12.length=n/\Y04 5 numC x.o0 V' x.o12 t (λi=>rowL (w+u) (o05 A w C i))) (λ_ x _=>n-x.t15.toNat)
  (λc x V'=>∃t k:Nat,c.t15=t/\t<n/\x.t27=k/\k<=u/\x.o12.length=n/\Y04 5 numC x.o0 V' x.o12 (t+1) (λi=>if i=t then rowL (w+k) (o05 A w C i)else rowL (w+u) (o05 A w C i))) (λ_ x _=>u-x.t27.toNat) ?_
 rw[hl]
 refine⟨⟨by omega,by omega,by omega,by omega⟩,⟨0,rfl,by omega,by simp,n0l _ _ _ _⟩,?_⟩
 rintro⟨t15,o0,o12⟩ V1 l1 ⟨t,ht,htn,hlen,hR⟩
 dsimp only at ht hlen hR ⊢
 subst ht
 refine⟨λhlt => ?_,λhge => ?_⟩
 . simp only[decide_eq_true_eq]at hlt
   have hk:t<n:=by omega
   obtain⟨g1,s,g2,g3⟩:=(h.le numC.le l1).row (t:=(t:Int)) (by omega) (row:=rowL w (A t)) (by rw[Int.toNat_natCast]; exact z07 hk A)
   rw[hl]at g1
   obtain⟨o,ho,hC⟩:=g3.cells
   refine⟨g1,s,.inr g2,?_⟩
   refine(x0c hC (.inr ho) g3.len (λe => ?_) (by rw[Z00]; omega)).mono λv m1 V2 l2 _ ⟨r,b,hv,hr,hb,hm⟩=>⟨r,hv,⟨by omega,by omega⟩,by rw[hlen,Int.toNat_natCast]; omega,?_,?_⟩
   . by_cases e2:rowL w (A t)=[]
     . exact e2
     . have:=g3.some e2; rw[e]at this; simp at this
   . refine⟨t,0,rfl,hk,rfl,by omega,by simp[hlen],?_⟩
     have:=(hR.le numC.le l2).push (by omega) hr hb hm
     have e1:(0+Int.toNat (t:Int)*1)=t:=by omega
     rw[e1]
     refine this.congr λi hi => ?_
     by_cases e:i=t
     . subst e
       simp only[if_true,Nat.add_zero]
       exact N04 λk hk=>by simp[o05,hk]
     . simp[e]
   . rintro⟨t27,o0',o12'⟩ V3 l3 ⟨t',k,ht',htn',hk27,hku,hlen',hR'⟩
     dsimp only at ht' hk27 hlen' hR' ⊢
     have:t'=t:=by omega
     subst this
     subst hk27
     rw[hql]
     refine⟨λhlt2 => ?_,λhge2 => ?_⟩
     . simp only[decide_eq_true_eq]at hlt2
       have hku2:k<u:=by omega
       have lq:=View.le_trans l1 (View.le_trans l2 l3)
       obtain⟨q1,s2,q2,q3⟩:=(hq.le numC.le lq).row (t:=(k:Int)) (by omega) (row:=rowL n (C k)) (by rw[Int.toNat_natCast]; exact z07 hku2 C)
       rw[hql]at q1
       obtain⟨s3,e3,r1,r2,r3,⟨o3,r4,r5,r6⟩,r7⟩:=hR'.row (i:=t') (by omega)
       obtain⟨c1,x,hx,hxl,hh,hs⟩:=I00.get q3 (t:=(t':Int)) (by omega) (z:=C k t') (by rw[Int.toNat_natCast]; exact m05 hk _)
       obtain⟨y,ey,hy⟩:=elN hx
       subst ey
       simp only[if_true]at r1 r6
       rw[Z00]at r1
       refine⟨q1,s2,.inr q2,⟨by omega,by omega⟩,s3,by rw[Int.toNat_natCast,Nat.mul_one,Nat.zero_add]; exact e3,c1,y,.inr hh,hs,λb1 V4 l4 hf4 hb4 => ?_⟩
       have hnew:V4.has (some (Addr.mk b1 0 none)) y.val.cells.toList:=by
        refine u06 (cs:=y.val.cells.toList) (j:=0) hb4 (λi v hv=>by rw[Nat.zero_add]; exact hv) rfl
       refine⟨o3,_,⟨r2,r3⟩,k0e l4 r4,r5,.inr hnew,by rw[hxl],oneN (numC.le l4 _ _ hx),by unfold maxLen; omega,by omega,λ_ h2=>r7 1 (by omega) h2,λa1 c1 m2 ha=>⟨⟨by omega,by omega⟩,by rw[hlen',Int.toNat_natCast]; omega,?_⟩⟩
       have:=(hR'.le numC.le l4).app (i:=t') (by omega) e3 hxl (numC.le l4 _ _ hx) (o':=o3) (by simp only[if_true]; exact r6.imp (numC.le l4)) ha
       rw[i64w (by omega) (by omega)]
       refine⟨⟨t',k+1,rfl,htn',by omega,by omega,by simp[hlen'],?_⟩,by omega⟩
       have e1:(0+Int.toNat (t':Int)*1)=t':=by omega
       rw[e1]
       refine this.congr λi hi => ?_
       by_cases e:i=t'
       . subst e
         simp only[if_true]
         rw[show C k i=o05 A w C i (w+k)by unfold o05; rw[if_neg (by omega),Nat.add_sub_cancel_left],e0c]; rfl
       . simp[e]
     . simp only[decide_eq_false_iff_not]at hge2
       have e:k=u:=by omega
       subst e
       rw[i64w (by omega) (by omega)]
       refine⟨⟨t'+1,by omega,by omega,hlen',hR'.congr λi hi => ?_⟩,by omega⟩
       by_cases e:i=t'<;>simp[e]
 . simp only[decide_eq_false_iff_not]at hge
   intro b3 hb3 hb4
   have e:t=n:=by omega
   subst e
   rw[Int.toNat_natCast]
   exact⟨_,rfl,hR.mat hlen hb3⟩
theorem Z09{m V:View}{p:Sl}{n w:Nat}{A:Nat->Nat->Cq}(Q:Nat->Cq->Prop)(h:MatR 5 numC m V p n w A)(hn:n<=w)(hw:w<=2^20)
 (q1:∀c x,c<=n->Q c x->okN x) (q2:∀c x y z u,Q c x->Q c y->Q c z->Q c u->Q (c+1) (numO.sub x (numO.mul (numO.div y z) u))) (q3:∀c x,Q c x->Q (c+1) x) (hA:∀i j,i<n->j<w->Q 0 (A i j)) :
 y01 Tryz.prog O08 #[p.v] m V λv m' V'=>v = .tuple #[.int .i64 ((elim numO n w A).2.1:Nat),.int .i64 (match (elim numO n w A).2.2 with|none => -1|some c=>(c:Int))]/\MatR 5 numC m' V' p n w (elim numO n w A).1:=by
 have hl:=h.len
 refine x08 m p V _
  (λ_ x V'=>∃(c s:Nat) (B:Nat->Nat->Cq),x.t13=c/\x.t4=s/\c<=n/\s<=c/\MatR 5 numC x.o0 V' p n w B/\N05 numO n w (n-c) c B s=elim numO n w A/\∀i j,i<n->j<w->Q c (B i j))
  (λ_ x _=>n-x.t13.toNat)
  (λc x V'=>∃(k s:Nat) (B:Nat->Nat->Cq),c.t13=k/\c.t4=s/\k<n/\s<=k/\MatR 5 numC c.o0 V' p n w B/\N05 numO n w (n-k) k B s=elim numO n w A/\(∀i j,i<n->j<w->Q k (B i j))/\x.t6=(pivF numO B k n:Nat))
  (λc x V'=>∃(k s:Nat) (B:Nat->Nat->Cq) (t:Nat),c.t13=k/\c.t4=s/\k<n/\s<=k/\MatR 5 numC c.o0 V' p n w B/\N05 numO n w (n-k) k B s=elim numO n w A/\(∀i j,i<n->j<w->Q k (B i j))/\x.t6=t/\k<=t/\t<=n/\∀q,k<=q->q<t->numO.clr (B q k)=false)
  (λ_ x _=>n-x.t6.toNat)
  (λc x V'=>∃(k s:Nat) (B:Nat->Nat->Cq),c.t13=k/\x.t4=s/\k<n/\s<=k+1/\MatR 5 numC x.o0 V' p n w B/\N05 numO n w (n-(k+1)) (k+1) (colF numO w B k n) s=elim numO n w A/\(∀i j,i<n->j<w->Q k (B i j))/\numO.clr (B k k)=true)
  (λc x V'=>∃(k s:Nat) (B:Nat->Nat->Cq) (R:Nat),c.t13=k/\c.t4=s/\k<n/\s<=k+1/\x.t7=R/\k<R/\R<=n/\MatR 5 numC x.o0 V' p n w (colF numO w B k R)/\N05 numO n w (n-(k+1)) (k+1) (colF numO w B k n) s=elim numO n w A/\(∀i j,i<n->j<w->Q k (B i j))/\numO.clr (B k k)=true)
  (λ_ x _=>n-x.t7.toNat)
  (λc x V'=>∃(k s:Nat) (B:Nat->Nat->Cq) (R K:Nat),c.t13=k/\c.t4=s/\k<n/\s<=k+1/\c.t7=R/\k<R/\R<n/\x.t10=K/\k<K/\K<=w/\atN V' c.o8 (numO.div (B R k) (B k k)) /\
    MatR 5 numC x.o0 V' p n w (rowF numO (colF numO w B k R) k R (numO.div (B R k) (B k k)) K)/\N05 numO n w (n-(k+1)) (k+1) (colF numO w B k n) s=elim numO n w A/\(∀i j,i<n->j<w->Q k (B i j))/\numO.clr (B k k)=true)
  (λ_ x _=>w-x.t10.toNat) ?_
 rw[hl]
 refine⟨⟨0,0,A,rfl,rfl,by omega,by omega,h,by rw[Nat.sub_zero]; rfl,hA⟩,?_⟩
 rintro⟨t4,t13,o0⟩ V1 l1 ⟨c,s,B,e13,e4,hc,hs,hM,hE,hQ⟩
 dsimp only at e13 e4 hM ⊢
 subst e13; subst e4
 refine⟨λhlt=>⟨⟨⟨c,s,B,c,rfl,rfl,by simp at hlt; omega,hs,hM,hE,hQ,rfl,by omega,hc,λq h1 h2=>by omega⟩,?_⟩,?_⟩,λhge => ?_⟩
 ·
   rintro⟨t6⟩ V3 l3 ⟨k,s',B',t,e13,e4,hk,hs',hM',hE',hQ',e6,h1,h2,h3⟩
   dsimp only at e13 e4 e6 hM' ⊢
   obtain rfl:c=k:=by omega
   obtain rfl:s=s':=by omega
   subst e6
   refine⟨λhlt2 => ?_,λhge2 => ?_⟩
   . simp only[decide_eq_true_eq]at hlt2
     have ht:t<n:=by omega
     obtain⟨g1,sl,g2,g3,g4,g5,g6,g7,g8⟩:=hM'.row ht
     obtain⟨x,hx,hxl,hh,hsm⟩:=g7 c (by omega)
     obtain⟨y,ey,hy⟩:=elN hx
     subst ey
     refine⟨⟨by omega,by omega,g1⟩,sl,.inl (by rw[Int.toNat_natCast]; exact g2),⟨by omega,by omega,g5 (by omega)⟩,y,by rw[Int.toNat_natCast]; exact hh,by rw[Int.toNat_natCast]; exact hsm,?_⟩
     refine(w0s hy (q1 c _ (by omega) (hQ' t c ht (by omega)))).mono λv V4 l4 hv=>⟨_,hv,λhb => ?_,λhb => ?_⟩
     . rw[i64w (by omega) (by omega)]
       refine⟨⟨c,s,B',t+1,rfl,rfl,hk,hs',hM'.le numC.le l4,hE',hQ',by omega,by omega,by omega,λq hq1 hq2 => ?_⟩,by omega⟩
       by_cases e:q=t
       . subst e; simpa using hb
       . exact h3 q hq1 (by omega)
     . refine⟨c,s,B',rfl,rfl,hk,hs',hM'.le numC.le l4,hE',hQ',?_⟩
       rw[Q0o numO B' h1 h2 h3 (λ_=>by simpa using hb)]
   . simp only[decide_eq_false_iff_not]at hge2
     have e:t=n:=by omega
     refine⟨c,s,B',rfl,rfl,hk,hs',hM',hE',hQ',?_⟩
     rw[Q0o numO B' h1 h2 h3 (λh=>by omega)]
 ·
   rintro⟨t6⟩ V2 l2 ⟨k,s',B',e13,e4,hk,hs',hM',hE',hQ',e6⟩
   dsimp only at e13 e4 e6 hM' ⊢
   obtain rfl:c=k:=by omega
   obtain rfl:s=s':=by omega
   subst e6
   obtain⟨p1,p2,p3,p4⟩:=c09 numO B' (c:=c) (n:=n) (by omega)
   refine⟨λheq => ?_,λhne=>⟨⟨λhsw => ?_,λhns => ?_⟩,?_⟩⟩
   . have e:pivF numO B' c n=n:=by simp at heq; omega
     rw[<-hE',H0n numO n w hk B' s e]
     exact⟨rfl,hM'⟩
   . have hpn:pivF numO B' c n<n:=by simp at hne; omega
     have hpc:pivF numO B' c n≠c:=by simp at hsw; omega
     obtain⟨g1,sc,g2,_⟩:=hM'.row hk
     obtain⟨_,sp,k2,_⟩:=hM'.row hpn
     obtain⟨b1,c1,l1',u1,u2,u3,b2,c2,l2',u4,u5,u6,u7⟩:=hM'.swap (by omega) hk hpn g2 k2
     refine⟨⟨by omega,by omega,g1⟩,sc,.inl (by rw[Int.toNat_natCast]; exact g2),⟨by omega,by omega,g1⟩,sp,.inl (by rw[Int.toNat_natCast]; exact k2),⟨by omega,by omega,g1⟩,b1,c1,l1',by rw[Int.toNat_natCast]; exact u1,u2,u3,⟨by omega,by omega,g1⟩,b2,c2,l2',by rw[Int.toNat_natCast]; exact u4,u5,u6,?_⟩
     rw[J0l numO n w hk B' s (by omega),if_neg hpc]at hE'
     have ep:l07 B' c (pivF numO B' c n)=Z0a B' c (pivF numO B' c n):=by unfold l07; rw[if_neg hpc]
     rw[i64w (by omega) (by omega)]
     refine⟨c,s+1,Z0a B' c (pivF numO B' c n),rfl,by omega,hk,by omega,u7,by rw[<-ep]; exact hE',λi j hi hj => ?_,?_⟩
     . unfold Z0a
       split
       . exact hQ' _ j hpn hj
       . split
         . exact hQ' _ j hk hj
         . exact hQ' i j hi hj
     . simp only[Z0a,if_true]; exact p4 hpn
   . have hpc:pivF numO B' c n=c:=by simp at hns; omega
     have hpn:pivF numO B' c n<n:=by omega
     rw[J0l numO n w hk B' s (by omega),if_pos hpc]at hE'
     have ep:l07 B' c (pivF numO B' c n)=B':=by unfold l07; rw[if_pos hpc]
     rw[ep]at hE'
     exact⟨c,s,B',rfl,rfl,hk,by omega,hM',hE',hQ',by have:=p4 hpn; rw[hpc]at this; exact this⟩
   ·
     clear p1 p2 p3 p4 hE' hQ' hM'
     rintro⟨t4',o0'⟩ V5 l5 ⟨k,s2,B2,e13',e4',hk2,hs2,hM2,hE2,hQ2,hcl⟩
     dsimp only at e13' e4' hM2 ⊢
     obtain rfl:c=k:=by omega
     subst e4'
     refine⟨⟨c,s2,B2,c+1,rfl,rfl,hk,hs2,by rw[i64w (by omega) (by omega)]; omega,by omega,by omega,by rw[F0n]; exact hM2,hE2,hQ2,hcl⟩,?_⟩
     clear hM2 hE2 hQ2 hcl
     rintro⟨t7,o0''⟩ V6 l6 ⟨k,s3,B3,R,f13,f4,hk3,hs3,f7,hkR,hRn,hM3,hE3,hQ3,hcl3⟩
     dsimp only at f13 f4 f7 hM3 ⊢
     obtain rfl:c=k:=by omega
     obtain rfl:s2=s3:=by omega
     subst f7
     refine⟨λhlt2 => ?_,λhge2 => ?_⟩
     . simp only[decide_eq_true_eq]at hlt2
       have hR:R<n:=by omega
       obtain⟨g1,sr,g2,g3,g4,g5,g6,g7,g8⟩:=hM3.row hR
       obtain⟨_,sc,k2,k3,k4,k5,k6,k7,k8⟩:=hM3.row hk
       obtain⟨x,hx,hxl,hh,hsm⟩:=g7 c (by omega)
       obtain⟨x',hx',hxl',hh',hsm'⟩:=k7 c (by omega)
       rw[I0l]at hx
       rw[H0l]at hx'
       obtain⟨y,ey,hy⟩:=elN hx
       obtain⟨y',ey',hy'⟩:=elN hx'
       subst ey; subst ey'
       refine⟨⟨by omega,by omega,g1⟩,sr,.inl (by rw[Int.toNat_natCast]; exact g2),⟨by omega,by omega,g5 (by omega)⟩,y,by rw[Int.toNat_natCast]; exact hh,by rw[Int.toNat_natCast]; exact hsm,
        ⟨by omega,by omega,g1⟩,sc,.inl (by rw[Int.toNat_natCast]; exact k2),⟨by omega,by omega,k5 (by omega)⟩,y',by rw[Int.toNat_natCast]; exact hh',by rw[Int.toNat_natCast]; exact hsm',?_⟩
       have qR:=hQ3 R c hR (by omega)
       have qc:=hQ3 c c hk (by omega)
       refine(divN hy hy' (q1 c _ (by omega) qR) (q1 c _ (by omega) qc) hcl3).mono λv V7 l7 ⟨r2,hv,hr2⟩=>⟨r2,0,hv,⟨c,s2,B3,R,c+1,rfl,rfl,hk,hs3,rfl,hkR,hR,by rw[i64w (by omega) (by omega)]; omega,by omega,by omega,hr2,?_,hE3,hQ3,hcl3⟩,?_⟩
       . rw[G0n]; exact hM3.le numC.le l7
       . clear hM3 g1 g2 g3 g4 g5 g6 g7 g8 k2 k3 k4 k5 k6 k7 k8 hh hsm hh' hsm' hx hx' hy hy'
         rintro⟨t10,o0'''⟩ V8 l8 ⟨k,s4,B4,R',K,d13,d4,hk4,hs4,d7,hkR4,hR4,d10,hkK,hKw,hf,hM4,hE4,hQ4,hcl4⟩
         dsimp only at d13 d4 d7 d10 hf hM4 ⊢
         obtain rfl:c=k:=by omega
         obtain rfl:s2=s4:=by omega
         obtain rfl:R=R':=by omega
         subst d10
         obtain⟨g1,sr,g2,g3,g4,g5,g6,g7,g8⟩:=hM4.row hR
         refine⟨⟨by omega,by omega,g1⟩,sr,.inl (by rw[Int.toNat_natCast]; exact g2),λhlt3 => ?_,λhge3 => ?_⟩
         . simp only[decide_eq_true_eq]at hlt3
           have hK:K<w:=by omega
           obtain⟨_,sc,k2,k3,k4,k5,k6,k7,k8⟩:=hM4.row hk
           obtain⟨x,hx,hxl,hh,hsm⟩:=g7 K hK
           obtain⟨x',hx',hxl',hh',hsm'⟩:=k7 K hK
           rw[o0s,I0l]at hx
           rw[n0s numO _ _ _ (by omega),H0l]at hx'
           obtain⟨y,ey,hy⟩:=elN hx
           obtain⟨y',ey',hy'⟩:=elN hx'
           subst ey; subst ey'
           have qR:=hQ4 R c hR (by omega)
           have qc:=hQ4 c c hk (by omega)
           have qRK:=hQ4 R K hR hK
           have qcK:=hQ4 c K hk hK
           refine⟨⟨by omega,by omega,g1⟩,sr,.inl (by rw[Int.toNat_natCast]; exact g2),⟨by omega,by omega,g1⟩,sr,.inl (by rw[Int.toNat_natCast]; exact g2),⟨by omega,by omega,g5 (by omega)⟩,y,by rw[Int.toNat_natCast]; exact hh,by rw[Int.toNat_natCast]; exact hsm,
            ⟨by omega,by omega,g1⟩,sc,.inl (by rw[Int.toNat_natCast]; exact k2),⟨by omega,by omega,k5 (by omega)⟩,y',by rw[Int.toNat_natCast]; exact hh',by rw[Int.toNat_natCast]; exact hsm',?_⟩
           refine(M0s hf hy' (q1 c _ (by omega) qR) (q1 c _ (by omega) qc) (q1 c _ (by omega) qcK)).mono λv V9 l9 ⟨r4,hv,hr4⟩=>⟨r4,hv,?_⟩
           refine(N0s (atN.le l9 hy) hr4 (q1 c _ (by omega) qRK) (q1 c _ (by omega) qR) (q1 c _ (by omega) qc) (q1 c _ (by omega) qcK)).mono λv V10 l10 ⟨r5,hv,hr5⟩=>⟨r5,hv,⟨by omega,by omega,g5 (by omega)⟩,?_⟩
           obtain⟨v1,v2,b3,c3,l3,v3,v4,v5,v6⟩:=(hM4.le numC.le (View.le_trans l9 l10)).put hR hK (lenN r5) (l0p hr5) g2
           refine⟨b3,c3,l3,by rw[Int.toNat_natCast]; exact v3,v4,v5,?_⟩
           rw[i64w (by omega) (by omega)]
           refine⟨⟨c,s2,B4,R,K+1,rfl,rfl,hk,hs4,rfl,hkR,hR,by omega,by omega,by omega,atN.le (View.le_trans l9 l10) hf,?_,hE4,hQ4,hcl4⟩,by omega⟩
           have e:=S0o numO (colF numO w B4 c R) (c:=c) (R:=R) (numO.div (B4 R c) (B4 c c)) hkK
           rw[<-e,I0l,H0l]; exact v6
         . simp only[decide_eq_false_iff_not]at hge3
           have e:K=w:=by omega
           subst e
           rw[i64w (by omega) (by omega)]
           rw[i0q numO K B4 hkR]at hM4
           exact⟨⟨c,s2,B4,R+1,rfl,rfl,hk,hs4,by omega,by omega,by omega,hM4,hE4,hQ4,hcl4⟩,by omega⟩
     . simp only[decide_eq_false_iff_not]at hge2
       have e:R=n:=by omega
       subst e
       rw[i64w (by omega) (by omega)]
       refine⟨⟨c+1,s2,colF numO w B3 c R,by omega,rfl,by omega,hs3,hM3,hE3,λi j hi hj => ?_⟩,by omega⟩
       unfold colF
       split
       . exact q2 c _ _ _ _ (hQ3 i j hi hj) (hQ3 i c hi (by omega)) (hQ3 c c hk (by omega)) (hQ3 c j hk hj)
       . exact q3 c _ (hQ3 i j hi hj)
 . simp only[decide_eq_false_iff_not]at hge
   have e:c=n:=by omega
   subst e
   rw[T0o]at hE
   rw[<-hE]
   exact⟨rfl,hM⟩
theorem g0f{n w:Nat}(A:Nat->Nat->Cq)(hn:n<=32)(hw:w<=32):f0f (matL n w A)=true/\(0<n->f07 (matL n w A)=w)/\(n=0->f07 (matL n w A)=0):=by
 have hc:0<n->f07 (matL n w A)=w:=by
  intro h
  unfold f07 matL
  obtain⟨m,rfl⟩:∃m,n=m+1:=⟨n-1,by omega⟩
  rw[List.range_succ_eq_map]
  simp[Z00]
 refine⟨?_,hc,λh=>by subst h; rfl⟩
 unfold f0f
 rcases Nat.eq_zero_or_pos n with h|h
 . subst h; rfl
 . rw[hc h,Q01]
   have e:((matL n w A).any λrow=>decide (row.length≠w))=false:=by
    rw[List.any_eq_false]
    intro row hrow
    unfold matL at hrow
    obtain⟨i,_,rfl⟩:=List.mem_map.1 hrow
    simp[Z00]
   rw[e]
   simp[hn,hw]
theorem x0s{V:View}{p:Sl}{n:Nat}{A:Nat->Nat->Cq}(h:S07 5 numC V p (matL n n A))(hn:n<=32):a00 Tryz.prog a06 #[p.v] V λv _=>v = .bool true:=by
 refine(B0a h (by rw[Q01]; omega)).mono λv V1 _ hv => ?_
 obtain⟨h1,h2,h3⟩:=g0f A hn hn
 rw[hv,h1,Q01]
 rcases Nat.eq_zero_or_pos n with e|e
 . rw[h3 e,e]; rfl
 . rw[h2 e]; simp
structure u0q (n:Nat) (Q:Cq->Prop) (qs:Nat->Nat->Cq->Prop) (qx:Nat->Cq->Prop):Prop where
 r0:∀j x,j<n->Q x->qs j 0 x
 r1:∀j i s a x,j<n->i<j->qs j i s->Q a->qx j x->qs j (i+1) (numO.sub s (numO.mul a x))
 r2:∀j s a,j<n->qs j j s->Q a->qx (j+1) (numO.div s a)
 r3:∀j x,j<n->qx j x->qx (j+1) x
 k1:∀x,Q x->okN x
 k2:∀j i s,j<n->i<=j->qs j i s->okN s
 k3:∀j x,j<=n->qx j x->okN x
theorem y0c{V:View}{p q:Sl}{n:Nat}{A:Nat->Nat->Cq}{b:Nat->Cq}(h:S07 5 numC V p (matL n n A))(hb:I00 5 numC V q (rowL n b))(hn:n<=32)
 (Q:Nat->Cq->Prop) (q1:∀c x,c<=n->Q c x->okN x) (q2:∀c x y z u,Q c x->Q c y->Q c z->Q c u->Q (c+1) (numO.sub x (numO.mul (numO.div y z) u))) (q3:∀c x,Q c x->Q (c+1) x)
 (hA:∀i j,i<n->j<n->Q 0 (A i j)) (hB:∀i,i<n->Q 0 (b i)) (qs:Nat->Nat->Cq->Prop) (qx:Nat->Cq->Prop) (hk:u0q n (Q n) qs qx) :
 a00 Tryz.prog k07 #[p.v,q.v] V λv V'=>∃r:Sl,match (elim numO n (n+1) (o05 A n λ_ i=>b i)).2.2 with
  | none=>v = .tuple #[r.v,.int .i64 0]/\I00 5 numC V' r (rowL n (n05 numO Cq.zero (elim numO n (n+1) (o05 A n λ_ i=>b i)).1 n n))
  | some _=>v = .tuple #[r.v,.int .i64 6]/\r=⟨none,0,0⟩:=by
 have hpl:p.len=n:=by have:=h.len; rw[Q01]at this; exact this
 have hql:q.len=n:=by have:=hb.len; rw[Z00]at this; exact this
 let W:=o05 A n λ_ i=>b i
 let B:=(elim numO n (n+1) W).1
 have hWQ:∀i j,i<n->j<n+1->Q 0 (W i j):=by
  intro i j hi hj
  show Q 0 (if j<n then A i j else b i)
  split
  . exact hA i j hi (by assumption)
  . exact hB i hi
 have hBQ:∀i j,i<n->j<n+1->Q n (B i j):=f0c numO Q n (n+1) q2 q3 n 0 W 0 (by omega) (by omega) hWQ
 refine j0a p q V _ (λ_ _ _=>True)
  (λ_ x V'=>∃j:Nat,x.t10=(n:Int)-1-j/\j<=n/\s01 5 numC V' x.o37 (rowL n (n05 numO Cq.zero B n j))/\∀i,n-j<=i->i<n->qx j (n05 numO Cq.zero B n j i))
  (λ_ x _=>(x.t10+1).toNat)
  (λc x V'=>∃j i:Nat,c.t10=(n:Int)-1-j/\j<n/\x.t12=(n:Int)-j+i/\i<=j/\s01 5 numC V' x.o37 (rowL n (n05 numO Cq.zero B n j))/\(∀i,n-j<=i->i<n->qx j (n05 numO Cq.zero B n j i)) /\
    atN V' x.o11 (U0e numO B (n05 numO Cq.zero B n j) (n-(j+1)) n i)/\qs j i (U0e numO B (n05 numO Cq.zero B n j) (n-(j+1)) n i))
  (λ_ x _=>n-x.t12.toNat) ?_
 rw[hpl,hql]
 refine⟨(x0s h hn).mono λv V2 l2 hv=>⟨true,hv,λhf=>absurd hf (by simp),λ_=>⟨λhf=>absurd hf (by simp),λ_=>trivial⟩⟩,?_⟩
 rintro⟨u⟩ V1 l1 -
 intro b3 V5 l5 _ hb3
 have hmore:S07 5 numC V5 ⟨some (Addr.mk b3 0 none),1,1⟩ (matL 1 n λ_ i=>b i):=by
  have hb5:I00 5 numC V5 q (rowL n b):=hb.le (numC.le (View.le_trans l1 l5)) (View.le_trans l1 l5)
  refine I00.of_block (o:=[q.v]) (o':=[]) (b:=b3) (λ_=>by simpa using hb3) ?_ (by rw[Q01]) (Nat.le_refl _) (λ_=>rfl)
  exact⟨[q.v],[],rfl,rfl,⟨q,rfl,hb5⟩,rfl⟩
 refine(B0b (h.le numC.le (View.le_trans l1 l5)) hmore (by omega) (by omega) (by omega)).mono λv m1 V6 l6 _ ⟨r2,hv,hM⟩=>⟨r2,hv,?_⟩
 refine(Z09 Q hM (by omega) (by omega) q1 q2 q3 hWQ).mono λv m2 V7 l7 _ ⟨hv,hM2⟩=>⟨_,_,hv,by decide,λV8 l8 hpub => ?_⟩
 have hRB:S07 5 numC V8 r2 (matL n (n+1) B):=hM2.known (numC.le l8) hpub
 have hr2:r2.len=n:=by have:=hRB.len; rw[Q01]at this; exact this
 cases hstop:(elim numO n (n+1) W).2.2 with
 | some c =>
   exact⟨λ_=>⟨⟨none,0,0⟩,rfl,rfl⟩,λhf=>absurd hf (by simp)⟩
 | none =>
   have hdiag:=Q0c numO n (n+1) n 0 W 0 (by omega) (λi hi=>absurd hi (by omega)) hstop
   refine⟨λhf=>absurd hf (by simp),λ_ => ?_⟩
   refine⟨⟨by omega,by omega,by omega,by omega⟩,⟨0,by rw[i64w (by omega) (by omega)]; show(n:Int)-1=_; omega,by omega,?_,λi h1 h2=>by omega⟩,?_⟩
   . have:=s01.replicate (sz:=5) (P:=numC) (V:=V8) rfl (L0s V8) n
     rw[Int.toNat_natCast]
     have e:rowL n (n05 numO Cq.zero B n 0)=List.replicate n Cq.zero:=O0c n Cq.zero
     rw[e]; exact this
   rintro⟨t10,o37⟩ V9 l9 ⟨j,e10,hj,hC,hx⟩
   dsimp only at e10 hC ⊢
   refine⟨λhge => ?_,λhlt => ?_⟩
   . have hjn:j<n:=by simp at hge; omega
     have ec:t10.toNat=n-(j+1):=by omega
     obtain⟨g1,s1,g2,g3⟩:=(hRB.le numC.le l9).row (t:=t10) (by omega) (row:=rowL (n+1) (B (n-(j+1)))) (by rw[ec]; exact z07 (by omega) B)
     obtain⟨c1,x,hxx,hxl,hh,hs⟩:=I00.get g3 (t:=(n:Int)) (by omega) (z:=B (n-(j+1)) n) (by rw[Int.toNat_natCast]; exact m05 (by omega) _)
     obtain⟨y,ey,hy⟩:=elN hxx
     subst ey
     refine⟨g1,s1,g2,c1,y,hh,hs,⟨j,0,e10,hjn,by rw[i64w (by omega) (by omega)]; omega,by omega,hC,hx,hy,hk.r0 j _ hjn (hBQ _ _ (by omega) (by omega))⟩,?_⟩
     clear hh hs hxx hxl g2 g3 c1
     rintro⟨t12,o11,o37'⟩ V10 l10 ⟨j',i,e10',hj',e12,hi,hC',hx',hS,hqS⟩
     dsimp only at e10' e12 hC' hS ⊢
     obtain rfl:j=j':=by omega
     obtain⟨g1,s1,g2,g3⟩:=(hRB.le numC.le (View.le_trans l9 l10)).row (t:=t10) (by omega) (row:=rowL (n+1) (B (n-(j+1)))) (by rw[ec]; exact z07 (by omega) B)
     refine⟨λhlt2 => ?_,λhge2 => ?_⟩
     . have hij:i<j:=by simp at hlt2; omega
       have ek:t12.toNat=n-(j+1)+1+i:=by omega
       obtain⟨c1,x,hxx,hxl,hh,hs⟩:=I00.get g3 (t:=t12) (by omega) (z:=B (n-(j+1)) (n-(j+1)+1+i)) (by rw[ek]; exact m05 (by omega) _)
       obtain⟨y1,ey,hy1⟩:=elN hxx
       subst ey
       obtain⟨x',hx2,hxl2,hg⟩:=hC'.at (i:=t12.toNat) (z:=n05 numO Cq.zero B n j (n-(j+1)+1+i)) (by rw[ek]; exact m05 (by omega) _)
       obtain⟨y2,ey2,hy2⟩:=elN hx2
       subst ey2
       have qa:=hBQ (n-(j+1)) (n-(j+1)+1+i) (by omega) (by omega)
       have qX:=hx' (n-(j+1)+1+i) (by omega) (by omega)
       have okx:=hk.k3 j _ (by omega) qX
       refine⟨g1,s1,g2,c1,y1,hh,hs,⟨by omega,by omega⟩,y2,hg,?_⟩
       refine(mulN hy1 hy2 (hk.k1 _ qa) okx).mono λv V11 l11 ⟨r5,hv,h5⟩=>⟨r5,hv,?_⟩
       refine(subN (atN.le l11 hS) h5 (hk.k2 j i _ hjn (by omega) hqS) (hk.k1 _ qa) okx).mono λv V12 l12 ⟨r6,hv,h6⟩=>⟨r6,hv,?_⟩
       rw[i64w (by omega) (by omega)]
       exact⟨⟨j,i+1,e10,hjn,by omega,by omega,hC'.imp (numC.le (View.le_trans l11 l12)),hx',h6,hk.r1 j i _ _ _ hjn hij hqS qa qX⟩,by omega⟩
     . have hij:i=j:=by simp at hge2; omega
       subst hij
       obtain⟨c1,x,hxx,hxl,hh,hs⟩:=I00.get g3 (t:=t10) (by omega) (z:=B (n-(i+1)) (n-(i+1))) (by rw[ec]; exact m05 (by omega) _)
       obtain⟨y1,ey,hy1⟩:=elN hxx
       subst ey
       have qa:=hBQ (n-(i+1)) (n-(i+1)) (by omega) (by omega)
       refine⟨g1,s1,g2,c1,y1,hh,hs,?_⟩
       refine(divN hS hy1 (hk.k2 i i _ hjn (Nat.le_refl _) hqS) (hk.k1 _ qa) (hdiag _ (by omega))).mono λv V13 l13 ⟨r7,hv,h7⟩=>⟨r7,0,hv,⟨by omega,by omega⟩,?_,?_⟩
       . rw[hC'.length,Z00,ec]
         have e2:(n-(i+1))*5+5=(n-(i+1)+1)*5:=by rw[Nat.add_mul,Nat.one_mul]
         rw[Nat.zero_add,e2]
         exact Nat.mul_le_mul_right _ (by omega)
       . rw[i64w (by omega) (by omega)]
         have hset:=(hC'.imp (numC.le l13)).set0 (i:=n-(i+1)) (by rw[Z00]; omega) (lenN r7) (l0p h7)
         rw[d0c]at hset
         refine⟨⟨i+1,by omega,by omega,by rw[ec]; exact hset,λk h1 h2 => ?_⟩,by omega⟩
         simp only[n05]
         by_cases e:k=n-(i+1)
         . rw[if_pos e]; exact hk.r2 i _ _ hjn hqS qa
         . rw[if_neg e]; exact hk.r3 i _ hjn (hx' k (by omega) h2)
   . have hjn:j=n:=by simp at hlt; omega
     subst hjn
     intro b5 V14 l14 hb5
     rw[Int.toNat_natCast]
     refine⟨⟨some (Addr.mk b5 0 none),j,j⟩,rfl,?_⟩
     exact G08 hb5 (hC.imp (numC.le l14)) (by rw[Z00])
def Xb(T:Nat):Nat->Nat
 | 0=>0
 | j+1=>max (Xb T j) (4*(T+j*(T+Xb T j+2))+8)
theorem D0r{T:Nat}:∀ {j n:Nat},j<=n->Xb T j<=Xb T n
 | j, 0, h => by have : j = 0 := by omega
                 subst this; exact Nat.le_refl _
 | j,n+1,h=>by
   by_cases e:j=n+1
   . subst e; exact Nat.le_refl _
   . exact Nat.le_trans (D0r (j:=j) (n:=n) (by omega)) (Nat.le_max_left _ _)
theorem Z0l{n T:Nat}(h:T+n*(T+Xb T n+2)<=2^36)(hX:Xb T n<=2^36) :
 u0q n (λz=>z.sz<=T) (λj i s=>s.sz<=T+i*(T+Xb T j+2)) (λj x=>x.sz<=Xb T j):=by
 refine⟨λj x _ hx=>by rw[Nat.zero_mul]; exact hx,λj i s a x hj hi hs ha hx => ?_,λj s a hj hs ha => ?_,λj x _ hx=>Nat.le_trans hx (Nat.le_max_left _ _),λx hx => ?_,λj i s hj hi hs => ?_,λj x hj hx => ?_⟩
 . have h1:=U01 a x
   have h2:=F05 s (a*x)
   show(s-a*x).sz<=_
   rw[Nat.add_mul,Nat.one_mul]; omega
 . have hd:(s.div a).sz<=4*(T+j*(T+Xb T j+2))+8:=Y0l hs (by
     have:0<=j*(T+Xb T j+2):=Nat.zero_le _
     omega)
   exact Nat.le_trans hd (Nat.le_max_right _ _)
 . unfold okN; omega
 . have h1:=D0r (T:=T) (j:=j) (n:=n) (by omega)
   have h2:i*(T+Xb T j+2)<=n*(T+Xb T n+2):=Nat.mul_le_mul (by omega) (by omega)
   unfold okN; omega
 . have h1:=D0r (T:=T) (j:=j) (n:=n) hj
   unfold okN; omega
def qN(S:Nat)(c:Nat)(z:Cq):Prop:=z.sz+2<=(S+2)*6^c
theorem qN_2{S:Nat}(c:Nat)(x y z u:Cq)(hx:qN S c x)(hy:qN S c y)(hz:qN S c z)(hu:qN S c u):qN S (c+1) (numO.sub x (numO.mul (numO.div y z) u)):=by
 unfold qN at *
 rw[Nat.pow_succ]
 have e:(S+2)*(6^c*6)=((S+2)*6^c)*6:=by rw[Nat.mul_assoc]
 rw[e]
 generalize (S+2)*6^c=T at *
 have h1:(y.div z).sz<=4*(T-2)+8:=Y0l (by omega) (by omega)
 have h2:=U01 (y.div z) u
 have h3:=F05 x (y.div z*u)
 show(x-y.div z*u).sz+2<=_
 omega
theorem qN_3{S:Nat}(c:Nat)(x:Cq)(hx:qN S c x):qN S (c+1) x:=by
 unfold qN at *
 rw[Nat.pow_succ]
 have e:(S+2)*(6^c*6)=((S+2)*6^c)*6:=by rw[Nat.mul_assoc]
 omega
theorem qN_1{S n:Nat}(h:(S+2)*6^n<=2^36)(c:Nat)(x:Cq)(hc:c<=n)(hx:qN S c x):okN x:=by
 unfold qN at hx
 have:(S+2)*6^c<=(S+2)*6^n:=Nat.mul_le_mul_left _ (Nat.pow_le_pow_right (by omega) hc)
 unfold okN; omega
def augN(n:Nat)(A:Nat->Nat->Cq)(b:Nat->Cq):Nat->Nat->Cq:=o05 A n λ_ i=>b i
theorem a0l{V:View}{p q:Sl}{n:Nat}{A:Nat->Nat->Cq}{b:Nat->Cq}(S:Nat)(h:S07 5 numC V p (matL n n A))(hb:b09 V q (rowL n b))(hn:n<=32)(hA:∀i j,i<n->j<n->(A i j).sz<=S)(hB:∀i,i<n->(b i).sz<=S)
 (hS:(S+2)*6^n+n*((S+2)*6^n+Xb ((S+2)*6^n) n+2)<=2^36) (hX:Xb ((S+2)*6^n) n<=2^36) :
 a00 Tryz.prog k07 #[p.v,q.v] V λv V'=>∃r:Sl,match (elim numO n (n+1) (augN n A b)).2.2 with
  | none=>v = .tuple #[r.v,.int .i64 0]/\b09 V' r (rowL n (n05 numO Cq.zero (elim numO n (n+1) (augN n A b)).1 n n))/\∀i,i<n->(n05 numO Cq.zero (elim numO n (n+1) (augN n A b)).1 n n i).sz<=Xb ((S+2)*6^n) n
  | some _=>v = .tuple #[r.v,.int .i64 6]/\r=⟨none,0,0⟩:=by
 have q0:∀ {z:Cq},z.sz<=S->qN S 0 z:=λhz=>by unfold qN; rw[Nat.pow_zero]; omega
 have qT:∀ {z:Cq},qN S n z->z.sz<=(S+2)*6^n:=λhz=>by unfold qN at hz; omega
 have hk:=Z0l (T:=(S+2)*6^n) hS hX
 have hk':u0q n (qN S n) (λj i s=>s.sz<=(S+2)*6^n+i*((S+2)*6^n+Xb ((S+2)*6^n) j+2)) (λj x=>x.sz<=Xb ((S+2)*6^n) j) :=
  ⟨λj x hj hx=>hk.r0 j x hj (qT hx),λj i s a x hj hi hs ha hx=>hk.r1 j i s a x hj hi hs (qT ha) hx,λj s a hj hs ha=>hk.r2 j s a hj hs (qT ha),hk.r3,λx hx=>hk.k1 x (qT hx),hk.k2,hk.k3⟩
 have hok:∀c x,c<=n->qN S c x->okN x:=qN_1 (by omega)
 refine(y0c h hb hn (qN S) hok qN_2 qN_3 (λi j hi hj=>q0 (hA i j hi hj)) (λi hi=>q0 (hB i hi)) _ _ hk').mono λv V' _ ⟨r,hr⟩=>⟨r,?_⟩
 unfold augN
 cases e:(elim numO n (n+1) (o05 A n λ_ i=>b i)).2.2 with
 | some c=>rw[e]at hr; exact hr
 | none =>
   rw[e]at hr
   refine⟨hr.1,hr.2,λi hi => ?_⟩
   have hBQ:∀i j,i<n->j<n+1->qN S n ((elim numO n (n+1) (o05 A n λ_ i=>b i)).1 i j):=f0c numO (qN S) n (n+1) qN_2 qN_3 n 0 _ 0 (by omega) (by omega) λi j hi hj=>by
    show qN S 0 (if j<n then A i j else b i)
    split
    . exact q0 (hA i j hi (by assumption))
    . exact q0 (hB i hi)
   have key:∀j,j<=n->∀i,n-j<=i->i<n->(n05 numO Cq.zero (elim numO n (n+1) (o05 A n λ_ i=>b i)).1 n j i).sz<=Xb ((S+2)*6^n) j:=by
    intro j
    induction j with
    | zero=>intro _ i h1 h2; omega
    | succ j ih =>
      intro hj i h1 h2
      have ih:=ih (by omega)
      simp only[n05]
      by_cases e:i=n-(j+1)
      . rw[if_pos e]
        refine hk'.r2 j _ _ (by omega) ?_ (hBQ _ _ (by omega) (by omega))
        have bs:∀k,k<=j->(U0e numO (elim numO n (n+1) (o05 A n λ_ i=>b i)).1 (n05 numO Cq.zero (elim numO n (n+1) (o05 A n λ_ i=>b i)).1 n j) (n-(j+1)) n k).sz<=(S+2)*6^n+k*((S+2)*6^n+Xb ((S+2)*6^n) j+2):=by
         intro k
         induction k with
         | zero=>intro _; exact hk'.r0 j _ (by omega) (hBQ _ _ (by omega) (by omega))
         | succ k ihk=>intro hkj; exact hk'.r1 j k _ _ _ (by omega) (by omega) (ihk (by omega)) (hBQ _ _ (by omega) (by omega)) (ih _ (by omega) (by omega))
        exact bs j (Nat.le_refl j)
      . rw[if_neg e]; exact hk'.r3 j _ (by omega) (ih i (by omega) h2)
   exact key n (Nat.le_refl n) i (by omega) hi
def adjQ(A:Nat->Nat->Cq):Nat->Nat->Cq:=λk i=>(A i k).conj
theorem H0j{V:View}{p:Sl}{n w:Nat}{A:Nat->Nat->Cq}(h:S07 5 numC V p (matL n w A))(h0:0<n)(hn:n<=32)(hw:w<=32) :
 a00 Tryz.prog S09 #[p.v] V λv V'=>∃r:Sl,v = .tuple #[r.v,.int .i64 0]/\S07 5 numC V' r (matL w n (adjQ A)):=by
 have hl:p.len=n:=by have:=h.len; rw[Q01]at this; exact this
 obtain⟨e1,e2,_⟩:=g0f A hn hw
 have e2:=e2 h0
 refine q09 p V _
  (λ_ x V'=>∃k:Nat,x.t20=k/\k<=w/\x.o17.length=w/\Y04 5 numC x.o0 V' x.o17 w (λi=>if i<k then rowL n (adjQ A i)else [])) (λ_ x _=>w-x.t20.toNat)
  (λc x V'=>∃k j:Nat,c.t20=k/\c.t7=k/\k<w/\x.t25=j/\j<=n/\x.o17.length=w/\Y04 5 numC x.o0 V' x.o17 w (λi=>if i<k then rowL n (adjQ A i)else if i=k then rowL j (adjQ A k)else [])) (λ_ x _=>n-x.t25.toNat) ?_
 refine(n07 h (by rw[Q01]; omega)).mono λv V1 l1 hv=>⟨_,_,hv,λhf => ?_,λ_ => ?_⟩
 . rw[e1]at hf; simp at hf
 rw[e2,hl,Int.toNat_natCast]
 refine⟨⟨by omega,by omega,by omega,by omega⟩,⟨0,rfl,by omega,by simp,?_⟩,?_⟩
 . rw[m0s]; exact(Q0g V1 w).congr λi _=>by rw[if_neg (by omega)]
 rintro⟨t20,o0,o17⟩ V3 l3 ⟨k,ek,hk,hol,hR⟩
 dsimp only at ek hol hR ⊢
 subst ek
 refine⟨λhlt=>⟨⟨k,0,rfl,rfl,by simp at hlt; omega,rfl,by omega,hol,hR.congr λi hi => ?_⟩,?_⟩,λhge => ?_⟩
 . by_cases e:i<k
   . rw[if_pos e,if_pos e]
   . rw[if_neg e,if_neg e]
     split<;>rfl
 . rintro⟨t25,o0',o17'⟩ V4 l4 ⟨k',j,ek,_,hkw,ej,hj,hol',hR'⟩
   dsimp only at ek ej hol' hR' ⊢
   obtain rfl:k=k':=by omega
   subst ej
   refine⟨λhlt2 => ?_,λhge2 => ?_⟩
   . have hjn:j<n:=by simp at hlt2; omega
     obtain⟨s3,e3,r1,r2,r3,⟨o3,r4,r5,r6⟩,r7⟩:=hR'.row (i:=k) hkw
     rw[if_neg (by omega),if_pos rfl]at r1 r6
     rw[Z00]at r1
     obtain⟨g1,s,g2,g3⟩:=(h.le numC.le (View.le_trans l1 (View.le_trans l3 l4))).row (t:=(j:Int)) (by omega) (row:=rowL w (A j)) (by rw[Int.toNat_natCast]; exact z07 hjn A)
     rw[hl]at g1
     obtain⟨d1,x,hx,hxl,hh,hs⟩:=I00.get g3 (t:=(k:Int)) (by omega) (z:=A j k) (by rw[Int.toNat_natCast]; exact m05 hkw _)
     obtain⟨y,rfl,hy⟩:=hx
     refine⟨⟨by omega,by omega⟩,s3,by rw[Int.toNat_natCast,Nat.mul_one,Nat.zero_add]; exact e3,g1,s,.inr g2,d1,y,.inr hh,hs,(S0h hy).mono λv V5 l5 ⟨r,hv,hr⟩=>⟨r,hv,λb2 V6 l6 _ hb2 => ?_⟩⟩
     have hnew:V6.has (some (Addr.mk b2 0 none)) r.val.cells.toList:=u06 (cs:=r.val.cells.toList) (j:=0) hb2 (λi v hv=>by rw[Nat.zero_add]; exact hv) rfl
     have hrc:numC V6 r.val.cells.toList (adjQ A k j):=⟨r,rfl,hr.le l6⟩
     refine⟨o3,_,⟨r2,r3⟩,k0e (View.le_trans l5 l6) r4,r5,.inr hnew,rfl,oneN hrc,by unfold maxLen; omega,by omega,λ_ h2=>r7 1 (by omega) h2,λa1 c1 m1 ha=>⟨⟨by omega,by omega⟩,by rw[hol',Int.toNat_natCast]; omega,?_⟩⟩
     have:=(hR'.le numC.le (View.le_trans l5 l6)).app (i:=k) hkw e3 (z:=adjQ A k j) rfl hrc (o':=o3) (by rw[if_neg (by omega),if_pos rfl]; exact r6.imp (numC.le (View.le_trans l5 l6))) ha
     rw[i64w (by omega) (by omega)]
     refine⟨⟨k,j+1,rfl,rfl,hkw,by omega,by omega,by simp[hol'],?_⟩,by omega⟩
     have e1:(0+Int.toNat (k:Int)*1)=k:=by omega
     rw[e1]
     refine this.congr λi hi => ?_
     by_cases e:i=k
     . subst e
       simp only[if_true,Nat.lt_irrefl,if_false]
       exact e0c _ _
     . simp only[if_neg e]
   . have e:j=n:=by simp at hge2; omega
     subst e
     rw[i64w (by omega) (by omega)]
     refine⟨⟨k+1,by omega,by omega,hol',hR'.congr λi hi => ?_⟩,by omega⟩
     by_cases e:i<k
     . rw[if_pos e,if_pos (by omega)]
     . rw[if_neg e]
       by_cases e2:i=k
       . subst e2; rw[if_pos rfl,if_pos (by omega)]
       . rw[if_neg e2,if_neg (by omega)]
 . have e:k=w:=by simp at hge; omega
   subst e
   refine⟨by decide,λV7 l7 hpub b5 V8 l8 hb5=>⟨_,rfl,?_⟩⟩
   have hR2:Y04 5 numC o0 V3 o17 k (λi=>rowL n (adjQ A i)):=hR.congr λi hi=>by rw[if_pos hi]
   exact hR2.knownL numC.le hol (View.le_trans l7 l8) (λb cs hb=>l8 b cs (hpub b cs hb)) hb5
def nrmA(n:Nat)(A:Nat->Nat->Cq):Nat->Nat->Cq:=λi j=>sq (λk=>adjQ A i k*A k j) 0 n
def nrmB(n:Nat)(A:Nat->Nat->Cq)(b:Nat->Cq):Nat->Cq:=λi=>sq (λk=>adjQ A i k*b k) 0 n
theorem E0r{f:Nat->Cq}{S:Nat}:∀(j:Nat),(∀k,k<j->(f k).sz<=S)->(sq f 0 j).sz<=1+j*(S+1)
 | 0,_=>by have:=x06; show Cq.zero.sz<=_; omega
 | j+1,h=>by
   have ih:=E0r j λk hk=>h k (by omega)
   have h1:=E05 (sq f 0 j) (f (0+j))
   have h2:=h (0+j) (by omega)
   rw[sq,Nat.add_mul]; omega
theorem b0l{n:Nat}{A:Nat->Nat->Cq}{S w:Nat}(h:∀i j,i<n->j<w->(A i j).sz<=S)(m:Nat)(hm:m<=n)(i j:Nat)(hi:i<w)(hj:j<w):(sq (λk=>adjQ A i k*A k j) 0 m).sz<=1+n*(2*S+2):=by
 have:=E0r (f:=λk=>adjQ A i k*A k j) (S:=2*S+1) m λk hk=>by
  have h1:=U01 (adjQ A i k) (A k j)
  have h2:=h k i (by omega) hi
  have h3:=h k j (by omega) hj
  have h4:(adjQ A i k).sz=(A k i).sz:=b0d _
  omega
 have h2:m*(2*S+1+1)<=n*(2*S+2):=Nat.mul_le_mul hm (by omega)
 omega
theorem c0l{n:Nat}{A:Nat->Nat->Cq}{b:Nat->Cq}{S w:Nat}(h:∀i j,i<n->j<w->(A i j).sz<=S)(hb:∀i,i<n->(b i).sz<=S)(m:Nat)(hm:m<=n)(i:Nat)(hi:i<w):(sq (λk=>adjQ A i k*b k) 0 m).sz<=1+n*(2*S+2):=by
 have:=E0r (f:=λk=>adjQ A i k*b k) (S:=2*S+1) m λk hk=>by
  have h1:=U01 (adjQ A i k) (b k)
  have h2:=h k i (by omega) hi
  have h3:=hb k (by omega)
  have h4:(adjQ A i k).sz=(A k i).sz:=b0d _
  omega
 have h2:m*(2*S+1+1)<=n*(2*S+2):=Nat.mul_le_mul hm (by omega)
 omega
theorem M0n{V:View}{p q:Sl}{n w:Nat}{A:Nat->Nat->Cq}{b:Nat->Cq}(S:Nat)(h:S07 5 numC V p (matL n w A))(hb:b09 V q (rowL n b))(h0:0<n)(hn:n<=32)(hw:w<=32)
 (hA:∀i j,i<n->j<w->(A i j).sz<=S) (hB:∀i,i<n->(b i).sz<=S) (T:Nat) (hT:T=1+n*(2*S+2))
 (hS:(T+2)*6^w+w*((T+2)*6^w+Xb ((T+2)*6^w) w+2)<=2^36) (hX:Xb ((T+2)*6^w) w<=2^36) :
 a00 Tryz.prog q0k #[p.v,q.v] V λv V'=>∃r:Sl,match (elim numO w (w+1) (augN w (nrmA n A) (nrmB n A b))).2.2 with
  | none=>v = .tuple #[r.v,.int .i64 0]/\b09 V' r (rowL w (n05 numO Cq.zero (elim numO w (w+1) (augN w (nrmA n A) (nrmB n A b))).1 w w)) /\
      ∀i,i<w->(n05 numO Cq.zero (elim numO w (w+1) (augN w (nrmA n A) (nrmB n A b))).1 w w i).sz<=Xb ((T+2)*6^w) w
  | some _=>v = .tuple #[r.v,.int .i64 6]/\r=⟨none,0,0⟩:=by
 have hl:p.len=n:=by have:=h.len; rw[Q01]at this; exact this
 have hql:q.len=n:=by have:=hb.len; rw[Z00]at this; exact this
 have hpw:0<6^w:=Nat.pow_pos (by omega)
 have hTb:T+2<=2^36:=by
  have:(T+2)*1<=(T+2)*6^w:=Nat.mul_le_mul_left _ hpw
  omega
 have hSb:2*S+2<=2^36:=by
  have:1*(2*S+2)<=n*(2*S+2):=Nat.mul_le_mul_right _ h0
  omega
 have hcsz:∀i k,i<w->k<n->(adjQ A i k).sz<=S:=λi k hi hk=>by rw[show(adjQ A i k).sz=(A k i).sz from b0d _]; exact hA k i hk hi
 refine a0j p q V _ (λ_ _ _=>True)
  (λ_ x V'=>∃i:Nat,x.t38=i/\i<=w/\x.o32.length=w/\Y04 5 numC x.o0 V' x.o32 w (λr=>if r<i then rowL w (nrmA n A r)else [])/\s01 5 numC V' x.o35 (rowL w λr=>if r<i then nrmB n A b r else Cq.zero))
  (λ_ x _=>w-x.t38.toNat)
  (λc x V'=>∃i j:Nat,c.t38=i/\c.t10=i/\i<w/\x.t45=j/\j<=w/\x.o32.length=w/\Y04 5 numC x.o0 V' x.o32 w (λr=>if r<i then rowL w (nrmA n A r)else if r=i then rowL j (nrmA n A i)else []) /\
    s01 5 numC V' x.o35 (rowL w λr=>if r<i then nrmB n A b r else Cq.zero))
  (λ_ x _=>w-x.t45.toNat)
  (λc x V'=>∃i j k:Nat,c.t38=i/\c.t10=i/\i<w/\c.t45=j/\c.t12=j/\j<w/\x.t50=k/\k<=n/\x.o32.length=w/\Y04 5 numC x.o0 V' x.o32 w (λr=>if r<i then rowL w (nrmA n A r)else if r=i then rowL j (nrmA n A i)else []) /\
    s01 5 numC V' c.o35 (rowL w λr=>if r<i then nrmB n A b r else Cq.zero)/\N00 V' x.o13 (sq (λk=>adjQ A i k*A k j) 0 k))
  (λ_ x _=>n-x.t50.toNat)
  (λc x V'=>∃i k:Nat,c.t38=i/\c.t10=i/\i<w/\x.t81=k/\k<=n/\c.o32.length=w/\Y04 5 numC c.o0 V' c.o32 w (λr=>if r<i+1 then rowL w (nrmA n A r)else []) /\
    s01 5 numC V' x.o35 (rowL w λr=>if r<i then nrmB n A b r else if r=i then sq (λk=>adjQ A i k*b k) 0 k else Cq.zero))
  (λ_ x _=>n-x.t81.toNat) ?_
 refine(H0j h h0 hn hw).mono λv V1 l1 ⟨r1,hv,hr1⟩=>⟨r1,0,hv,⟨λhf=>absurd hf (by simp),λ_=>⟨λhf => ?_,λ_=>trivial⟩⟩,?_⟩
 . rw[hl,hql]at hf; simp at hf
 have hrl:r1.len=w:=by have:=hr1.len; rw[Q01]at this; exact this
 rintro⟨u⟩ V2 l2 -
 rw[hrl,hl]
 have hz:(List.replicate (Int.toNat (w:Int)) [Value.bool false,Value.slice none 0 0,Value.bool false,Value.slice none 0 0,Value.slice none 0 0]).flatten.length=w*5:=by simp
 refine⟨⟨by omega,by omega,by omega,by omega⟩,⟨by omega,by omega,by omega,by omega⟩,⟨0,rfl,by omega,by simp,?_,?_⟩,?_⟩
 . rw[m0s,Int.toNat_natCast]; exact(Q0g V2 w).congr λi _=>by rw[if_neg (by omega)]
 . have e:(rowL w λr=>if r<0 then nrmB n A b r else Cq.zero)=List.replicate w Cq.zero:=by
     rw[<-O0c]; exact N04 λk _=>by rw[if_neg (by omega)]
   rw[e,Int.toNat_natCast]; exact G0l.zeros V2 w
 rintro⟨t38,o0,o32,o35⟩ V5 l5 ⟨i,ei,hi,hol,hR,hC⟩
 dsimp only at ei hol hR hC ⊢
 subst ei
 refine⟨λhlt => ?_,λhge => ?_⟩
 . have hiw:i<w:=by simp at hlt; omega
   have L5:=View.le_trans l2 l5
   obtain⟨g1,s,g2,g3⟩:=(hr1.le numC.le L5).row (t:=(i:Int)) (by omega) (row:=rowL n (adjQ A i)) (by rw[Int.toNat_natCast]; exact z07 hiw _)
   rw[hrl]at g1
   have g3l:s.len=n:=by have:=g3.len; rw[Z00]at this; exact this
   refine⟨g1,s,.inr g2,⟨i,0,rfl,rfl,hiw,rfl,by omega,hol,hR.congr λr _ => ?_,hC⟩,?_⟩
   . by_cases e:r<i
     . rw[if_pos e,if_pos e]
     . rw[if_neg e,if_neg e]; split<;>rfl
   rintro⟨t45,o0',o32',o35'⟩ V6 l6 ⟨i',j,ei,_,_,ej,hj,hol',hR',hC'⟩
   dsimp only at ei ej hol' hR' hC' ⊢
   obtain rfl:i=i':=by omega
   subst ej
   refine⟨λhlt2 => ?_,λhge2 => ?_⟩
   . have hjw:j<w:=by simp at hlt2; omega
     refine⟨⟨i,j,0,rfl,rfl,hiw,rfl,rfl,hjw,rfl,by omega,hol',hR',hC',N00.zero V6⟩,?_⟩
     rintro⟨t50,o0'',o13,o32''⟩ V7 l7 ⟨i',j',k,ei,_,_,ej,_,_,ek,hk,hol'',hR'',hC'',hs⟩
     dsimp only at ei ej ek hol'' hR'' hC'' hs ⊢
     obtain rfl:i=i':=by omega
     obtain rfl:j=j':=by omega
     subst ek
     have L7:=View.le_trans l6 l7
     refine⟨λhlt3 => ?_,λhge3 => ?_⟩
     . have hkn:k<n:=by simp at hlt3; omega
       obtain⟨d1,x,⟨y,rfl,hy⟩,hxl,hh,hsm⟩:=I00.get (I00.le (numC.le L7) L7 g3) (t:=(k:Int)) (by omega) (z:=adjQ A i k) (by rw[Int.toNat_natCast]; exact m05 hkn _)
       obtain⟨f1,s2,f2,f3⟩:=(h.le numC.le (View.le_trans l1 (View.le_trans L5 L7))).row (t:=(k:Int)) (by omega) (row:=rowL w (A k)) (by rw[Int.toNat_natCast]; exact z07 hkn A)
       rw[hl]at f1
       obtain⟨d2,x2,⟨y2,rfl,hy2⟩,hxl2,hh2,hsm2⟩:=I00.get f3 (t:=(j:Int)) (by omega) (z:=A k j) (by rw[Int.toNat_natCast]; exact m05 hjw _)
       have z1:=hcsz i k hiw hkn
       have z2:=hA k j hkn hjw
       have z3:=b0l hA k hk i j hiw hjw
       have z4:=U01 (adjQ A i k) (A k j)
       refine⟨d1,y,.inr hh,hsm,f1,s2,.inr f2,d2,y2,.inr hh2,hsm2,(y02 hy hy2 (by omega) (by omega)).mono λv V8 l8 ⟨r3,hv,h3⟩=>⟨r3,hv,?_⟩⟩
       refine(O03 (hs.le l8) h3 (by omega) (by omega)).mono λv V9 l9 ⟨r4,hv,h4⟩=>⟨r4,hv,?_⟩
       rw[i64w (by omega) (by omega)]
       have L9:=View.le_trans l8 l9
       refine⟨⟨i,j,k+1,rfl,rfl,hiw,rfl,rfl,hjw,by omega,by omega,hol'',hR''.le numC.le L9,hC''.imp (numC.le L9),?_⟩,by omega⟩
       rw[sq,Nat.zero_add]; exact h4
     . have e:k=n:=by simp at hge3; omega
       subst e
       obtain⟨s3,e3,r1',r2,r3,⟨o3,r4,r5,r6⟩,r7⟩:=hR''.row (i:=i) hiw
       rw[if_neg (by omega),if_pos rfl]at r1' r6
       rw[Z00]at r1'
       refine⟨⟨by omega,by omega⟩,s3,by rw[Int.toNat_natCast,Nat.mul_one,Nat.zero_add]; exact e3,λb3 V10 l10 _ hb3 => ?_⟩
       have hnew:V10.has (some (Addr.mk b3 0 none)) o13.val.cells.toList:=u06 (cs:=o13.val.cells.toList) (j:=0) hb3 (λi v hv=>by rw[Nat.zero_add]; exact hv) rfl
       have hrc:numC V10 o13.val.cells.toList (nrmA k A i j):=⟨o13,rfl,hs.le l10⟩
       refine⟨o3,_,⟨r2,r3⟩,k0e l10 r4,r5,.inr hnew,rfl,oneN hrc,by unfold maxLen; omega,by omega,λ_ h2=>r7 1 (by omega) h2,λa1 c1 m1 ha=>⟨⟨by omega,by omega⟩,by rw[hol'',Int.toNat_natCast]; omega,?_⟩⟩
       have:=(hR''.le numC.le l10).app (i:=i) hiw e3 (z:=nrmA k A i j) rfl hrc (o':=o3) (by rw[if_neg (by omega),if_pos rfl]; exact r6.imp (numC.le l10)) ha
       rw[i64w (by omega) (by omega)]
       refine⟨⟨i,j+1,rfl,rfl,hiw,by omega,by omega,by simp[hol''],?_,hC''.imp (numC.le l10)⟩,by omega⟩
       have e1:(0+Int.toNat (i:Int)*1)=i:=by omega
       rw[e1]
       refine this.congr λr hr => ?_
       by_cases e:r=i
       . subst e
         simp only[if_true,Nat.lt_irrefl,if_false]
         exact e0c _ _
       . simp only[if_neg e]
   . have ej:j=w:=by simp at hge2; omega
     subst ej
     have hR4:Y04 5 numC o0' V6 o32' j (λr=>if r<i+1 then rowL j (nrmA n A r)else []):=hR'.congr λr _=>by
      by_cases e:r<i
      . rw[if_pos e,if_pos (by omega)]
      . rw[if_neg e]
        by_cases e2:r=i
        . subst e2; rw[if_pos rfl,if_pos (by omega)]
        . rw[if_neg e2,if_neg (by omega)]
     refine⟨⟨i,0,rfl,rfl,hiw,rfl,by omega,hol',hR4,?_⟩,?_⟩
     . rw[N04 (g:=λr=>if r<i then nrmB n A b r else Cq.zero) (λr _=>by
         by_cases e:r<i
         . rw[if_pos e,if_pos e]
         . rw[if_neg e,if_neg e]; split<;>rfl)]
       exact hC'
     rintro⟨t81,o35''⟩ V11 l11 ⟨i',k,ei,_,_,ek,hk,hol4,hR5,hC5⟩
     dsimp only at ei ek hol4 hR5 hC5 ⊢
     obtain rfl:i=i':=by omega
     subst ek
     have L11:=View.le_trans l6 l11
     refine⟨λhlt3 => ?_,λhge3 => ?_⟩
     . have hkn:k<n:=by simp at hlt3; omega
       obtain⟨x0,⟨y0,rfl,hy0⟩,hxl0,hg0⟩:=hC5.at (i:=i) (z:=sq (λk=>adjQ A i k*b k) 0 k) (by rw[m05 hiw,if_neg (by omega),if_pos rfl])
       obtain⟨d1,x,⟨y,rfl,hy⟩,hxl,hh,hsm⟩:=I00.get (I00.le (numC.le L11) L11 g3) (t:=(k:Int)) (by omega) (z:=adjQ A i k) (by rw[Int.toNat_natCast]; exact m05 hkn _)
       obtain⟨d2,x2,⟨y2,rfl,hy2⟩,hxl2,hh2,hsm2⟩:=I00.get (hb.le (View.le_trans l1 (View.le_trans L5 L11))) (t:=(k:Int)) (by omega) (z:=b k) (by rw[Int.toNat_natCast]; exact m05 hkn _)
       rw[hql]at d2
       have z1:=hcsz i k hiw hkn
       have z2:=hB k hkn
       have z3:=c0l hA hB k hk i hiw
       have z4:=U01 (adjQ A i k) (b k)
       refine⟨⟨by omega,by omega⟩,y0,by rw[Int.toNat_natCast]; exact hg0,d1,y,.inr hh,hsm,by rw[hql]; exact d2,y2,.inr hh2,hsm2,(y02 hy hy2 (by omega) (by omega)).mono λv V12 l12 ⟨r5,hv,h5⟩=>⟨r5,hv,?_⟩⟩
       refine(O03 (N00.le l12 hy0) h5 (by omega) (by omega)).mono λv V13 l13 ⟨r6,hv,h6⟩=>⟨r6,hv,⟨by omega,by omega⟩,?_,?_⟩
       . rw[hC5.length,Z00,Int.toNat_natCast]
         have e2:i*5+5=(i+1)*5:=by omega
         rw[Nat.zero_add,e2]; exact Nat.mul_le_mul_right _ hiw
       . have L13:=View.le_trans l12 l13
         rw[i64w (by omega) (by omega)]
         refine⟨⟨i,k+1,rfl,rfl,hiw,by omega,by omega,hol4,hR5.le numC.le L13,?_⟩,by omega⟩
         have hset:=(hC5.imp (numC.le L13)).set0 (i:=i) (by rw[Z00]; exact hiw) (lenN r6) (l0p h6)
         rw[d0c]at hset
         rw[Int.toNat_natCast]
         rw[N04 (g:=λr=>if r<i then nrmB n A b r else if r=i then sq (λk=>adjQ A i k*b k) 0 (k+1)else Cq.zero) (λr _=>by
          by_cases e:r=i
          . subst e; rw[if_pos rfl,if_neg (by omega),if_pos rfl,sq,Nat.zero_add]
          . rw[if_neg e,if_neg e,if_neg e])]at hset
         exact hset
     . have e:k=n:=by simp at hge3; omega
       subst e
       rw[i64w (by omega) (by omega)]
       refine⟨⟨i+1,by omega,by omega,hol4,hR5,?_⟩,by omega⟩
       rw[N04 (g:=λr=>if r<i then nrmB k A b r else if r=i then sq (λk=>adjQ A i k*b k) 0 k else Cq.zero) (λr _=>by
        by_cases e:r<i
        . rw[if_pos e,if_pos (by omega)]
        . rw[if_neg e]
          by_cases e2:r=i
          . subst e2; rw[if_pos rfl,if_pos (by omega)]; rfl
          . rw[if_neg e2,if_neg (by omega)])]
       exact hC5
 . have ei:i=w:=by simp at hge; omega
   subst ei
   refine⟨by decide,λV14 l14 hpub b6 V15 l15 hb6 b7 V16 l16 hb7 => ?_⟩
   have hR2:Y04 5 numC o0 V5 o32 i (λr=>rowL i (nrmA n A r)):=hR.congr λr hr=>by rw[if_pos hr]
   have L16:=View.le_trans l14 (View.le_trans l15 l16)
   have hM:S07 5 numC V16 ⟨some ⟨b6,0,none⟩,i,i⟩ (matL i i (nrmA n A)):=hR2.knownL numC.le hol L16 (λb cs hb=>l16 b cs (l15 b cs (hpub b cs hb))) (l16 _ _ hb6)
   rw[N04 (g:=nrmB n A b) (λr hr=>by rw[if_pos hr])]at hC
   have hv':b09 V16 ⟨some ⟨b7,0,none⟩,i,i⟩ (rowL i (nrmB n A b)):=G08 hb7 (hC.imp (numC.le L16)) (by rw[Z00])
   rw[Int.toNat_natCast]
   have tA:∀r j,r<i->j<i->(nrmA n A r j).sz<=T:=λr j h1 h2=>by rw[hT]; exact b0l hA n (Nat.le_refl n) r j h1 h2
   have tB:∀r,r<i->(nrmB n A b r).sz<=T:=λr h1=>by rw[hT]; exact c0l hA hB n (Nat.le_refl n) r h1
   refine(a0l T hM hv' hw tA tB hS hX).mono λv V17 l17 ⟨r7,h7⟩ => ?_
   cases e:(elim numO i (i+1) (augN i (nrmA n A) (nrmB n A b))).2.2 with
   | none=>rw[e]at h7; exact⟨r7,0,h7.1,r7,rfl,h7.2⟩
   | some c=>rw[e]at h7; exact⟨r7,6,h7.1,r7,rfl,h7.2⟩
theorem i0f{V:View}(s:g01):a00 Tryz.prog H0d #[s.val] V λv _=>v=(j03.mk s.x s.y s.z).val:=L0c s V _ rfl
theorem z0c{V:View}(a:j03):a00 Tryz.prog s0k #[a.val] V λv _=>v=(g01.mk a.e0 a.e1 a.e2).val :=
 b0j a V _ ⟨⟨by omega,by omega⟩,⟨by omega,by omega⟩,⟨by omega,by omega⟩,rfl⟩
theorem d0l{V:View}{s:g01}{p:P3}(h:x03 V s p):a00 Tryz.prog u08 #[s.val] V λv _=>v = .bool (!p.real):=by
 refine J0e s V _ ((M03 h.x).mono λv V1 l1 hv=>⟨_,hv,λh1 => ?_,λh1 => ?_⟩)
 . have:decide (p.x.im=0)=false:=by simpa using h1
   unfold P3.real; rw[this]; rfl
 . have e1:decide (p.x.im=0)=true:=by simpa using h1
   refine(M03 (h.y.le l1)).mono λv V2 l2 hv=>⟨_,hv,λh2 => ?_,λh2 => ?_⟩
   . have:decide (p.y.im=0)=false:=by simpa using h2
     unfold P3.real; rw[e1,this]; rfl
   . have e2:decide (p.y.im=0)=true:=by simpa using h2
     refine(M03 (h.z.le (View.le_trans l1 l2))).mono λv V3 l3 hv=>⟨_,hv,?_⟩
     unfold P3.real; rw[e1,e2]; rfl
theorem e0l{V:View}{s:Sl}{ps:List P3}(h:I00 15 U0k V s ps)(hn:ps.length<=2^40)(q:Fn0) :
 a00 Tryz.prog S04 #[s.v,q.val u08] V λv _=>∃r:Int,v = .int .i64 r/\(0<=r↔∃p,p∈ps/\p.real=false):=by
 have hl:=h.len
 refine y03 s q V _ (λ_ x _=>∃t:Nat,x.t8=t/\t<=ps.length/\∀p,p∈ps.take t->p.real=true) (λ_ x _=>ps.length-x.t8.toNat) ⟨⟨0,rfl,by omega,by simp⟩,?_⟩
 rintro⟨t⟩ V1 l1 ⟨t',ht,htn,hi⟩
 dsimp only at ht ⊢
 subst ht
 refine⟨λhlt => ?_,λhge => ?_⟩
 . simp only[decide_eq_true_eq]at hlt
   have hk:t'<ps.length:=by omega
   obtain⟨g1,x,⟨y,rfl,hy⟩,_,hh,hs⟩:=I00.get (I00.le (U0k.le l1) l1 h) (t:=(t':Int)) (by omega) (z:=ps[t']) (by simp)
   refine⟨g1,y,hh,hs,(d0l hy).mono λv V2 l2 hv=>⟨_,hv,λhr=>⟨_,rfl,?_⟩,λhr => ?_⟩⟩
   . have e:ps[t'].real=false:=by simpa using hr
     exact⟨λ_=>⟨_,List.getElem_mem hk,e⟩,λ_=>by omega⟩
   . have e:ps[t'].real=true:=by simpa using hr
     rw[i64w (by omega) (by omega)]
     refine⟨⟨t'+1,by omega,by omega,λp hp => ?_⟩,by omega⟩
     rw[List.take_add_one,List.getElem?_eq_getElem hk]at hp
     simp only[Option.toList_some,List.mem_append,List.mem_singleton]at hp
     rcases hp with hp|hp
     . exact hi p hp
     . subst hp; exact e
 . have e:t'=ps.length:=by simp at hge; omega
   subst e
   rw[List.take_length]at hi
   exact⟨-1,rfl,λh=>absurd h (by omega),λ⟨p,h1,h2⟩=>by rw[hi p h1]at h2; simp at h2⟩
theorem M0g{V:View}{s:Sl}{ps:List P3}(h:I00 15 U0k V s ps)(hn:ps.length<=2^40):a00 Tryz.prog n0d #[s.v] V λv _=>v = .bool (ps.all P3.real):=by
 refine p0h s V _ ((a03 s ⟨⟩ V _ ((e0l h hn _).mono λv V1 l1 ⟨r,hv,hr⟩=>⟨r,hv,?_⟩):a00 Tryz.prog z04 #[s.v,(Fn0.mk).val u08] V λv _=>v = .bool (!ps.all P3.real)).mono λv V1 l1 hv=>⟨_,hv,?_⟩)
 . congr 1
   rw[Bool.eq_iff_iff,decide_eq_true_eq,ge_iff_le,hr]
   simp only[Bool.not_eq_true',List.all_eq_false,Bool.not_eq_true]
 . rw[Bool.not_not]
theorem I0j{V:View}{s:g01}{p:P3}(h:x03 V s p){b:Nat}(hb:V b=some s.val.cells):a00 Tryz.prog n0d #[(Sl.mk (some (Addr.mk b 0 none)) 1 1).v] V λv _=>v = .bool p.real:=by
 refine(M0g (ps:=[p]) (I00.of_block (o:=s.val.cells.toList) (o':=[]) (b:=b) (λ_=>by simpa using hb) (s01.one rfl ⟨s,rfl,h⟩) rfl (Nat.le_refl _) (λ_=>rfl)) (by show 1<=2^40; decide)).mono λv V1 _ hv => ?_
 rw[hv]; simp
theorem g07{V:View}{s:z01}{f:F3}(h:w04 V s f):a00 Tryz.prog S0b #[s.val] V λv _=>v = .bool f.real:=by
 refine u0b s V _ λb1 V1 l1 _ hb1 => ?_
 have hC:s01 15 U0k V1 (s.o.val.cells.toList++(s.u.val.cells.toList++s.v.val.cells.toList)) [f.o,f.u,f.v] :=
  ⟨_,_,rfl,rfl,⟨s.o,rfl,h.o.le l1⟩,_,_,rfl,rfl,⟨s.u,rfl,h.u.le l1⟩,_,[],by simp,rfl,⟨s.v,rfl,h.v.le l1⟩,rfl⟩
 refine(M0g (ps:=[f.o,f.u,f.v]) (I00.of_block (o:=s.o.val.cells.toList++(s.u.val.cells.toList++s.v.val.cells.toList)) (o':=[]) (b:=b1) (λ_=>by rw[List.append_nil]; exact hb1) hC rfl (Nat.le_refl _) (λ_=>rfl)) (by show 3<=2^40; decide)).mono λv V2 l2 hv=>⟨_,hv,?_⟩
 simp[F3.real]
theorem a0m{V:View}{a b:g01}{p q:P3}{S T:Nat}(hp:x03 V a p)(hq:x03 V b q)(sp:p.szle S)(sq:q.szle T)(hS:S+T<=2^37) :
 a00 Tryz.prog a0n #[a.val,b.val] V λv V'=>∃r:NumV,v=r.val/\N00 V' r (dotP p q):=by
 obtain⟨s1,s2,s3⟩:=sp
 obtain⟨t1,t2,t3⟩:=sq
 have a1:=U01 p.x q.x; have a2:=U01 p.y q.y; have a3:=U01 p.z q.z
 have b1:=E05 (p.x*q.x) (p.y*q.y)
 refine J0k a b V _ ((y02 hp.x hq.x (by omega) (by omega)).mono λv V1 l1 ⟨r1,hv,h1⟩=>⟨r1,hv,?_⟩)
 refine(y02 (hp.y.le l1) (hq.y.le l1) (by omega) (by omega)).mono λv V2 l2 ⟨r2,hv,h2⟩=>⟨r2,hv,?_⟩
 refine(O03 (h1.le l2) h2 (by omega) (by omega)).mono λv V3 l3 ⟨r3,hv,h3⟩=>⟨r3,hv,?_⟩
 have L:=View.le_trans l1 (View.le_trans l2 l3)
 refine(y02 (hp.z.le L) (hq.z.le L) (by omega) (by omega)).mono λv V4 l4 ⟨r4,hv,h4⟩=>⟨r4,hv,?_⟩
 exact(O03 (h3.le l4) h4 (by omega) (by omega)).mono λv V5 l5 ⟨r5,hv,h5⟩=>⟨r5,hv,r5,rfl,h5⟩
theorem U0c{V:View}{a b:g01}{n:NumV}{p q:P3}{f:Cq}{S T F:Nat}(hp:x03 V a p)(hf:N00 V n f)(hq:x03 V b q)(sp:p.szle S)(sf:f.sz<=F)(sq:q.szle T)(hS:S+T+F<=2^38) :
 a00 Tryz.prog L0i #[a.val,n.val,b.val] V λv V'=>∃r:g01,v=r.val/\x03 V' r (q0a p f q):=by
 obtain⟨s1,s2,s3⟩:=sp
 obtain⟨t1,t2,t3⟩:=sq
 let ps:List Cq:=[p.x,p.y,p.z]
 let qs:List Cq:=[q.x,q.y,q.z]
 let g:Nat->Nat->Cq:=λt i=>if i<t then nth ps i+f*nth qs i else nth ps i
 have szp:∀i,i<3->(nth ps i).sz<=S:=λi hi=>by
  have:i=0\/i=1\/i=2:=by omega
  rcases this with rfl|rfl|rfl
  . exact s1
  . exact s2
  . exact s3
 have szq:∀i,i<3->(nth qs i).sz<=T:=λi hi=>by
  have:i=0\/i=1\/i=2:=by omega
  rcases this with rfl|rfl|rfl
  . exact t1
  . exact t2
  . exact t3
 refine q0h a n b V _ (λ_ x V'=>∃t:Nat,x.t14=t/\t<=3/\s01 5 numC V' x.o7 (rowL 3 (g t))) (λ_ x _=>3-x.t14.toNat) ?_
 refine(i0f a).mono λv V1 l1 hv=>⟨_,hv,(i0f b).mono λv V2 l2 hv=>⟨_,hv,⟨0,rfl,by omega,?_⟩,?_⟩⟩
 . have L:=View.le_trans l1 l2
   exact L0l (hp.x.le L) (hp.y.le L) (hp.z.le L)
 rintro⟨t14,o6,o7⟩ V3 l3 ⟨t,ht,h3,hC⟩
 dsimp only at ht hC ⊢
 subst ht
 have L3:=View.le_trans l1 (View.le_trans l2 l3)
 refine⟨λhlt => ?_,λhge => ?_⟩
 . have hk:t<3:=by simp at hlt; omega
   obtain⟨x,⟨y,rfl,hy⟩,hxl,hg⟩:=hC.at (i:=t) (z:=nth ps t) (by rw[m05 hk]; show some (if t<t then _ else _)=_; rw[if_neg (by omega)])
   have hQ:s01 5 numC V3 _ qs:=L0l (hq.x.le L3) (hq.y.le L3) (hq.z.le L3)
   obtain⟨x2,⟨y2,rfl,hy2⟩,hxl2,hg2⟩:=hQ.at (i:=t) (z:=nth qs t) (P0o (by show t<3; exact hk))
   have z1:=szp t hk
   have z2:=szq t hk
   have z3:=U01 f (nth qs t)
   refine⟨⟨by omega,by omega⟩,y,by rw[Int.toNat_natCast]; exact hg,⟨by omega,by omega⟩,y2,by rw[Int.toNat_natCast]; exact hg2,?_⟩
   refine(y02 (hf.le L3) hy2 (by omega) (by omega)).mono λv V4 l4 ⟨r3,hv,h3'⟩=>⟨r3,hv,?_⟩
   refine(O03 (N00.le l4 hy) h3' (by omega) (by omega)).mono λv V5 l5 ⟨r4,hv,h4⟩=>⟨r4,hv,⟨by omega,by omega⟩,?_,?_⟩
   . rw[hC.length,Z00,Int.toNat_natCast]; omega
   . rw[i64w (by omega) (by omega)]
     refine⟨⟨t+1,by omega,by omega,?_⟩,by omega⟩
     have hset:=(hC.imp (numC.le (View.le_trans l4 l5))).set0 (i:=t) (by rw[Z00]; exact hk) (lenN r4) (l0p h4)
     rw[d0c]at hset
     rw[Int.toNat_natCast]
     rw[N04 (g:=g (t+1)) (λk _=>by
      show(if k=t then nth ps t+f*nth qs t else if k<t then nth ps k+f*nth qs k else nth ps k)=if k<t+1 then _ else _
      by_cases e:k=t
      . subst e; rw[if_pos rfl,if_pos (by omega)]
      . rw[if_neg e]
        by_cases e2:k<t
        . rw[if_pos e2,if_pos (by omega)]
        . rw[if_neg e2,if_neg (by omega)])]at hset
     exact hset
 . have e:t=3:=by simp at hge; omega
   subst e
   obtain⟨c,ho,h1,h2,h3⟩:=o0j (show s01 5 numC V3 o7 [(q0a p f q).x,(q0a p f q).y,(q0a p f q).z]from hC)
   refine⟨c,by rw[ho]; rfl,(z0c c).mono λv V6 l6 hv=>⟨_,hv,_,rfl,h1.le l6,h2.le l6,h3.le l6⟩⟩
theorem n0p{V:View}{a b:g01}{p q:P3}{S T:Nat}(hp:x03 V a p)(hq:x03 V b q)(sp:p.szle S)(sq:q.szle T)(hS:S+T<=2^37) :
 a00 Tryz.prog w0k #[a.val,b.val] V λv V'=>∃r:g01,v=r.val/\x03 V' r (j0c p q):=by
 refine c0j a b V _ ((D04 (by omega) (by omega)).mono λv V1 l1 ⟨r1,hv,h1⟩=>⟨r1,hv,?_⟩)
 exact(U0c (hp.le l1) h1 (hq.le l1) sp n0j sq (by omega)).mono λv V2 l2 ⟨r2,hv,h2⟩=>⟨r2,hv,r2,rfl,h2⟩
theorem e09{V:View}{n:Int}(h0 : -9223372036854775808<=n)(h1:n<=9223372036854775807):a00 Tryz.prog J0i #[.int .i64 n] V λv V'=>∃r:NumV,v=r.val/\N00 V' r ⟨(n:Rat),0⟩ :=
 s0h n V _ ((D04 h0 h1).mono λv V1 l1 ⟨r1,hv,h1⟩=>⟨r1,hv,r1,rfl,h1⟩)
theorem N0g{V:View}{s:z01}{a b:NumV}{f:F3}{i j:Cq}{S T:Nat}(h:w04 V s f)(hi:N00 V a i)(hj:N00 V b j)(sf:f.szle S)(si:i.sz<=T)(sj:j.sz<=T)(hS:3*S+2*T<=2^37) :
 a00 Tryz.prog T0b #[s.val,a.val,b.val] V λv V'=>∃r:g01,v=r.val/\x03 V' r (m07 f i j):=by
 refine w0b s a b V _ ((U0c h.o hi h.u sf.o si sf.u (by omega)).mono λv V1 l1 ⟨r1,hv,h1⟩=>⟨r1,hv,?_⟩)
 exact(U0c h1 (hj.le l1) (h.v.le l1) (k0c sf.o sf.u si) sj sf.v (by omega)).mono λv V2 l2 ⟨r2,hv,h2⟩=>⟨r2,hv,r2,rfl,h2⟩
theorem o0p{V:View}{s:z01}{f:F3}{S:Nat}(h:w04 V s f)(sf:f.szle S)(hS:S<=2^36) :
 a00 Tryz.prog t0k #[s.val] V λv V'=>∃r:NumV,v = .tuple #[r.val,.int .i64 (if f.real=true then 0 else 1)]/\N00 V' r (if f.real=true then dotP f.u f.v else Cq.zero):=by
 refine d0j s V _ ((g07 h).mono λv V1 l1 hv=>⟨_,hv,λhr => ?_,λhr => ?_⟩)
 . have e:f.real=false:=by simpa using hr
   rw[e]; exact⟨zN,rfl,N00.zero V1⟩
 . have e:f.real=true:=by simpa using hr
   rw[e]
   exact(a0m (h.u.le l1) (h.v.le l1) sf.u sf.v (by omega)).mono λv V2 l2 ⟨r2,hv,h2⟩=>⟨r2,hv,r2,rfl,h2⟩
def C0b(f:F3)(i j:Cq):Bool:=f.real&&(decide (i.im=0)&&decide (j.im=0))
theorem O0g{V:View}{s:z01}{a b:NumV}{f:F3}{i j:Cq}{S T:Nat}(h:w04 V s f)(hi:N00 V a i)(hj:N00 V b j)(sf:f.szle S)(si:i.sz<=T)(sj:j.sz<=T)(hS:3*S+2*T<=2^37) :
 a00 Tryz.prog G0i #[s.val,a.val,b.val] V λv V'=>∃r:g01,v = .tuple #[r.val,.int .i64 (if C0b f i j=true then 0 else 1)]/\x03 V' r (if C0b f i j=true then m07 f i j else P3.zero):=by
 unfold C0b
 refine t0h s a b V _ ((g07 h).mono λv V1 l1 hv=>⟨_,hv,λhr => ?_,λhr => ?_⟩)
 . have e:f.real=false:=by simpa using hr
   rw[e]; exact⟨⟨zN,zN,zN⟩,rfl,x03.zero V1⟩
 . have e:f.real=true:=by simpa using hr
   rw[e]
   refine(M03 (hi.le l1)).mono λv V2 l2 hv=>⟨_,hv,λhr => ?_,λhr => ?_⟩
   . have e:decide (i.im=0)=false:=by simpa using hr
     rw[e]; exact⟨⟨zN,zN,zN⟩,rfl,x03.zero V2⟩
   . have e:decide (i.im=0)=true:=by simpa using hr
     rw[e]
     have L2:=View.le_trans l1 l2
     refine(M03 (hj.le L2)).mono λv V3 l3 hv=>⟨_,hv,λhr => ?_,λhr => ?_⟩
     . have e:decide (j.im=0)=false:=by simpa using hr
       rw[e]; exact⟨⟨zN,zN,zN⟩,rfl,x03.zero V3⟩
     . have e:decide (j.im=0)=true:=by simpa using hr
       rw[e]
       have L3:=View.le_trans L2 l3
       exact(N0g (h.le L3) (hi.le L3) (hj.le L3) sf si sj hS).mono λv V4 l4 ⟨r4,hv,h4⟩=>⟨r4,hv,r4,rfl,h4⟩
structure Mk where
 i:Int
 j:Int
 p:P3
def Mk.in64(m:Mk):Prop:=(-9223372036854775808<=m.i/\m.i<=9223372036854775807)/\(-9223372036854775808<=m.j/\m.j<=9223372036854775807)
structure X0q (V:View) (s:q07) (m:Mk):Prop where
 i:s.i=m.i
 j:s.j=m.j
 p:x03 V s.at_ m.p
def a0b(V:View)(x:List Value)(m:Mk):Prop:=∃s:q07,x=s.val.cells.toList/\X0q V s m
theorem a0b.le{V V':View}(hle:V.le V')(x:List Value)(m:Mk)(h:a0b V x m):a0b V' x m:=by
 obtain⟨s,e,h1,h2,h3⟩:=h; exact⟨s,e,h1,h2,h3.le hle⟩
def C0a(V:View)(s:Sl)(ms:List Mk):Prop:=I00 17 a0b V s ms
theorem C0a.le{V V':View}(hle:V.le V'){s:Sl}{ms:List Mk}(h:C0a V s ms):C0a V' s ms:=I00.le (a0b.le hle) hle h
def intQ(n:Int):Cq:=⟨(n:Rat),0⟩
theorem H03{n:Int}(h : -9223372036854775808<=n/\n<=9223372036854775807):(intQ n).sz<=64:=by
 refine(Rep.ofInt n).sz (k:=64) ?_ (by decide) (by decide)
 exact M05 (by omega)
def w06(p:P3)(a:Nat):Cq:=if a=0 then p.x else if a=1 then p.y else p.z
def mkD:Mk:=⟨0,0,P3.zero⟩
def fitA(ms:List Mk):Nat->Nat->Cq:=λr k=>if k=0 then intQ 1 else if k=1 then intQ (ms.getD r mkD).i else intQ (ms.getD r mkD).j
def fitB(ms:List Mk)(a:Nat):Nat->Cq:=λr=>w06 (ms.getD r mkD).p a
def fitX(ms:List Mk)(a:Nat):Nat->Cq:=n05 numO Cq.zero (elim numO 3 4 (augN 3 (nrmA ms.length (fitA ms)) (nrmB ms.length (fitA ms) (fitB ms a)))).1 3 3
def fitF(ms:List Mk):F3:=⟨⟨fitX ms 0 0,fitX ms 1 0,fitX ms 2 0⟩,⟨fitX ms 0 1,fitX ms 1 1,fitX ms 2 1⟩,⟨fitX ms 0 2,fitX ms 1 2,fitX ms 2 2⟩⟩
def q06(ms:List Mk):Cq:=detD 3 (nrmA ms.length (fitA ms))
def fitE(ms:List Mk):Int:=if ms.length<3\/32<ms.length then 4 else if ms.all (λm=>m.p.real)=true then(if q06 ms=Cq.zero then 6 else 0)else 1
theorem p0p(ms:List Mk)(a:Nat):detD 3 (augN 3 (nrmA ms.length (fitA ms)) (nrmB ms.length (fitA ms) (fitB ms a)))=q06 ms:=rfl
theorem j0f{n:Nat}(hn:n<=32):(1+n*(2*1100+2)+2)*6^3+3*((1+n*(2*1100+2)+2)*6^3+Xb ((1+n*(2*1100+2)+2)*6^3) 3+2)<=2^36/\Xb ((1+n*(2*1100+2)+2)*6^3) 3<=2^32:=by
 have hT:(1+n*(2*1100+2)+2)*6^3<=15300000:=by omega
 generalize (1+n*(2*1100+2)+2)*6^3=T at *
 have e:Xb T 3<=204*T+408:=by simp only[Xb]; omega
 omega
theorem q0p{ms:List Mk}(h:∀m∈ms,m.in64)(r k:Nat):(fitA ms r k).sz<=64:=by
 have hd:(ms.getD r mkD).in64:=by
  rcases Nat.lt_or_ge r ms.length with g|g
  . have e:ms.getD r mkD=ms[r]:=by simp[List.getD,g]
    rw[e]; exact h _ (List.getElem_mem g)
  . have e:ms.getD r mkD=mkD:=by simp[List.getD,g]
    rw[e]; exact⟨⟨by show(-9223372036854775808:Int)<=0; decide,by show(0:Int)<=9223372036854775807; decide⟩,⟨by show(-9223372036854775808:Int)<=0; decide,by show(0:Int)<=9223372036854775807; decide⟩⟩
 unfold fitA
 split
 . exact H03 ⟨by decide,by decide⟩
 . split
   . exact H03 hd.1
   . exact H03 hd.2
theorem B09{ms:List Mk}{r:Nat}(h:r<ms.length):ms[r]?=some (ms.getD r mkD):=by simp[List.getD,h]
theorem N0n{V:View}{s:g01}{p:P3}(h:x03 V s p){a:Nat}(ha:a<3) :
 ∃y:NumV,List.take 5 (List.drop (a*5) (s.x.val.cells.toList++(s.y.val.cells.toList++s.z.val.cells.toList)))=y.val.cells.toList/\N00 V y (w06 p a):=by
 obtain⟨x,⟨y,rfl,hy⟩,_,hg⟩:=(L0l h.x h.y h.z).at (i:=a) (z:=w06 p a) (by
  have:a=0\/a=1\/a=2:=by omega
  rcases this with rfl|rfl|rfl<;>rfl)
 rw[Nat.zero_add]at hg
 exact⟨y,hg,hy⟩
theorem F0r{p:P3}{S:Nat}(h:p.szle S)(a:Nat):(w06 p a).sz<=S:=by
 unfold w06
 split
 . exact h.1
 . split
   . exact h.2.1
   . exact h.2.2
theorem W0c{V:View}{o:List Value}{g:Nat->Cq}(h:s01 5 numC V o (rowL 9 g))(k:Nat)(hk:k<3) :
 ∃a:j03,List.take 15 (List.drop (k*15) o)=a.val.cells.toList/\N00 V a.e0 (g (3*k))/\N00 V a.e1 (g (3*k+1))/\N00 V a.e2 (g (3*k+2)):=by
 have h1:=(h.drop (3*k)).take 3
 have e:List.take 3 (List.drop (3*k) (rowL 9 g))=[g (3*k),g (3*k+1),g (3*k+2)]:=by
  have:k=0\/k=1\/k=2:=by omega
  rcases this with rfl|rfl|rfl<;>rfl
 have e1:3*k*5=k*15:=by omega
 rw[e,e1]at h1
 obtain⟨a,ho,h2,h3,h4⟩:=o0j h1
 exact⟨a,ho,h2,h3,h4⟩
def L09(ms:List Mk)(a k:Nat):Nat->Cq:=λq=>if q%3<a\/(q%3=a/\q / 3<k)then fitX ms (q%3) (q / 3)else Cq.zero
theorem G0r(ms:List Mk)(r:Nat):rowL 3 (fitA ms r)=[intQ 1,intQ (ms.getD r mkD).i,intQ (ms.getD r mkD).j]:=rfl
theorem y0s{V:View}{b:Nat}{a1 a2 a3:NumV}{x y z:Cq}(hb:V b=some (a1.val.cells.toList++(a2.val.cells.toList++a3.val.cells.toList)).toArray)(h1:N00 V a1 x)(h2:N00 V a2 y)(h3:N00 V a3 z) :
 I00 5 numC V ⟨some ⟨b,0,none⟩,3,3⟩ [x,y,z] :=
 I00.of_block (o:=a1.val.cells.toList++(a2.val.cells.toList++a3.val.cells.toList)) (o':=[]) (b:=b) (λ_=>by rw[List.append_nil]; exact hb) (L0l h1 h2 h3) rfl (Nat.le_refl _) (λ_=>rfl)
set_option maxHeartbeats 1000000 in
theorem U0h{V:View}{s:Sl}{ms:List Mk}(h:C0a V s ms)(hi:∀m∈ms,m.in64)(hz:∀m∈ms,m.p.szle 1100) :
 a00 Tryz.prog U0m #[s.v] V λv V'=>∃r:z01,v = .tuple #[r.val,.int .i64 (fitE ms)]/\w04 V' r (if fitE ms=0 then fitF ms else F3.zero) /\
  (fitE ms=0->(fitF ms).szle (2^32)):=by
 have hl:s.len=ms.length:=h.len
 let n:=ms.length
 let A:=fitA ms
 have nil:∀(e:Int) (V':View),fitE ms=e->e≠0->∃r:z01,Value.tuple #[(z01.mk ⟨zN,zN,zN⟩ ⟨zN,zN,zN⟩ ⟨zN,zN,zN⟩).val,.int .i64 e]=Value.tuple #[r.val,.int .i64 (fitE ms)] /\
  w04 V' r (if fitE ms=0 then fitF ms else F3.zero)/\(fitE ms=0->(fitF ms).szle (2^32)):=λe V' he hne=>by
  rw[he,if_neg hne]; exact⟨_,rfl,w04.zero V',λh=>absurd h hne⟩
 let rowN:View->List Value->List Cq->Prop:=λV x row=>∃s:Sl,x=[s.v]/\I00 5 numC V s row
 have rowN_le:∀ {V V':View},V.le V'->∀x row,rowN V x row->rowN V' x row:=λhle x row ⟨s,e,hs⟩=>⟨s,e,b09.le hle hs⟩
 refine K0k s V _ (λ_ _ _=>3<=n/\n<=32)
  (λ_ x V'=>∃(t:Nat) (l:List Value),x.t26=t/\t<=n/\Z03 1 x.t4l x.t4c x.o4 l/\x.t4l=t/\s01 1 rowN V' l (matL t 3 A)/\∀m∈ms.take t,m.p.real=true) (λ_ x _=>n-x.t26.toNat)
  (λ_ x V'=>∃a:Nat,x.t48=a/\a<=3/\s01 5 numC V' x.o7 (rowL 9 (L09 ms a 0))/\(0<a->q06 ms≠Cq.zero/\∀b,b<a->∀k,k<3->(fitX ms b k).sz<=2^32)) (λ_ x _=>3-x.t48.toNat)
  (λc x V'=>∃(a t:Nat) (l:List Value),c.t48=a/\a<3/\x.t53=t/\t<=n/\Z03 5 x.t9l x.t9c x.o9 l/\x.t9l=t/\s01 5 numC V' l (rowL t (fitB ms a))/\s01 5 numC V' x.o7 (rowL 9 (L09 ms a 0))) (λ_ x _=>n-x.t53.toNat)
  (λc x V'=>∃a k:Nat,c.t48=a/\a<3/\x.t77=k/\k<=3/\s01 5 numC V' x.o7 (rowL 9 (L09 ms a k))) (λ_ x _=>3-x.t77.toNat) ?_
 rw[hl]
 refine⟨⟨λh3=>nil 4 V ?_ (by decide),λh3=>⟨λh4=>nil 4 V ?_ (by decide),λh4 => ?_⟩⟩,?_⟩
 . unfold fitE; rw[if_pos (.inl (by simp at h3; omega))]
 . unfold fitE; rw[if_pos (.inr (by simp at h4; omega))]
 . exact⟨by simp at h3; omega,by simp at h4; omega⟩
 rintro⟨o2⟩ V1 l1 ⟨hn3,hn32⟩
 have hn3:3<=ms.length:=hn3
 have hn32:ms.length<=32:=hn32
 refine⟨⟨0,[],rfl,by omega,Z03.nil,rfl,rfl,by simp⟩,?_⟩
 rintro⟨t4l,t4c,t26,o2',o4⟩ V2 l2 ⟨t,l,et,ht,hL,e4,hC,hreal⟩
 dsimp only at et hL e4 hC ⊢
 subst et; subst e4
 have L2:=View.le_trans l1 l2
 refine⟨λhlt => ?_,λhge => ?_⟩
 . have hk:t4l<ms.length:=by simp at hlt; omega
   obtain⟨g1,x,⟨m,rfl,hm⟩,_,hh,hs⟩:=I00.get (h.le L2) (t:=(t4l:Int)) (by omega) (z:=ms.getD t4l mkD) (by rw[Int.toNat_natCast]; exact B09 hk)
   rw[hl]at g1
   have hmem:ms.getD t4l mkD∈ms:=List.mem_of_getElem? (B09 hk)
   obtain⟨i1,i2⟩:=hi _ hmem
   refine⟨g1,m,hh,hs,λb1 V3 l3 _ hb1=>(I0j (hm.p.le l3) hb1).mono λv V4 l4 hv=>⟨_,hv,λhr=>nil 1 V4 ?_ (by decide),λhr => ?_⟩⟩
   . have e:(ms.getD t4l mkD).p.real=false:=by simpa using hr
     unfold fitE
     rw[if_neg (by omega),if_neg (by
      intro hall
      rw[List.all_eq_true]at hall
      rw[hall _ hmem]at e; simp at e)]
   . have hre:(ms.getD t4l mkD).p.real=true:=by simpa using hr
     refine(e09 (by omega) (by omega)).mono λv V5 l5 ⟨r2,hv,h2⟩=>⟨r2,hv,?_⟩
     rw[hm.i,hm.j]
     refine(e09 i1.1 i1.2).mono λv V6 l6 ⟨r3,hv,h3⟩=>⟨r3,hv,?_⟩
     refine(e09 i2.1 i2.2).mono λv V7 l7 ⟨r4,hv,h4⟩=>⟨r4,hv,λb2 V8 l8 _ hb2 b3 V9 l9 _ hb3 => ?_⟩
     have M9:=View.le_trans l8 l9
     have hrow:I00 5 numC V9 ⟨some ⟨b2,0,none⟩,3,3⟩ (rowL 3 (fitA ms t4l)):=by
      rw[G0r]
      exact y0s (l9 _ _ hb2) (h2.le (View.le_trans l6 (View.le_trans l7 M9))) (h3.le (View.le_trans l7 M9)) (h4.le M9)
     have hnew:V9.has (some (Addr.mk b3 0 none)) [Value.slice (some ⟨b2,0,none⟩) 3 3]:=u06 (cs:=[Value.slice (some ⟨b2,0,none⟩) 3 3]) (j:=0) hb3 (λi v hv=>by rw[Nat.zero_add]; exact hv) rfl
     refine⟨l,_,hL,hnew,rfl,by intro v hv; simp at hv; subst hv; rfl,by unfold maxLen; omega,by omega,λc1 l3' hl3 => ?_⟩
     rw[i64w (by omega) (by omega)]
     refine⟨⟨t4l+1,_,by omega,hk,hl3,rfl,?_,λq hq => ?_⟩,by omega⟩
     . have e:matL (t4l+1) 3 A=matL t4l 3 A++[rowL 3 (A t4l)]:=by simp[matL,List.range_succ]
       rw[e]
       exact(hC.imp (rowN_le (View.le_trans l3 (View.le_trans l4 (View.le_trans l5 (View.le_trans l6 (View.le_trans l7 M9))))))).append (s01.one rfl ⟨_,rfl,hrow⟩)
     . rw[List.take_add_one,B09 hk]at hq
       simp only[Option.toList_some,List.mem_append,List.mem_singleton]at hq
       rcases hq with hq|hq
       . exact hreal q hq
       . subst hq; exact hre
 have et:t4l=ms.length:=by simp at hge; have:t4l<=ms.length:=ht; omega
 subst et
 rw[List.take_length]at hreal
 have hall:ms.all (λm=>m.p.real)=true:=List.all_eq_true.2 hreal
 intro b4 V10 l10 hb4
 have hM:S07 5 numC V10 ⟨lstA b4 t4c,ms.length,t4c⟩ (matL ms.length 3 A):=B07 hL hb4 (hC.imp (rowN_le l10)) (by rw[Q01])
 have L10:=View.le_trans L2 l10
 refine⟨⟨0,rfl,by omega,?_,λh=>absurd h (by omega)⟩,?_⟩
 . have e:rowL 9 (L09 ms 0 0)=List.replicate 9 Cq.zero:=by
     rw[<-O0c]; exact N04 λq _=>by unfold L09; rw[if_neg (by omega)]
   rw[e]; exact G0l.zeros V10 9
 rintro⟨t48,o2'',o7⟩ V11 l11 ⟨a,ea,ha,hP,hdone⟩
 dsimp only at ea hP ⊢
 subst ea
 have L11:=View.le_trans L10 l11
 refine⟨λhlt=>⟨⟨a,0,[],rfl,by simp at hlt; omega,rfl,by omega,Z03.nil,rfl,rfl,hP⟩,?_⟩,λhge => ?_⟩
 . have ha3:a<3:=by simp at hlt; omega
   rintro⟨t9l,t9c,t53,o2x,o7',o9⟩ V12 l12 ⟨a',t,lb,ea,_,et,ht,hLb,e9,hCb,hP'⟩
   dsimp only at ea et hLb e9 hCb hP' ⊢
   obtain rfl:a=a':=by omega
   subst et; subst e9
   have L12:=View.le_trans L11 l12
   refine⟨λhlt2 => ?_,λhge2 => ?_⟩
   . have hk:t9l<ms.length:=by simp at hlt2; omega
     obtain⟨g1,x,⟨m,rfl,hm⟩,_,hh,hs⟩:=I00.get (h.le L12) (t:=(t9l:Int)) (by omega) (z:=ms.getD t9l mkD) (by rw[Int.toNat_natCast]; exact B09 hk)
     rw[hl]at g1
     refine⟨g1,m,hh,hs,(i0f m.at_).mono λv V13 l13 hv=>⟨_,hv,⟨by omega,by omega⟩,?_⟩⟩
     obtain⟨y,hy1,hy2⟩:=N0n (hm.p.le l13) ha3
     refine⟨y,by rw[Int.toNat_natCast]; exact hy1,λb5 V14 l14 _ hb5 => ?_⟩
     have hnew:V14.has (some (Addr.mk b5 0 none)) y.val.cells.toList:=u06 (cs:=y.val.cells.toList) (j:=0) hb5 (λi v hv=>by rw[Nat.zero_add]; exact hv) rfl
     have hyc:numC V14 y.val.cells.toList (fitB ms a t9l):=⟨y,rfl,hy2.le l14⟩
     refine⟨lb,_,hLb,hnew,rfl,oneN hyc,by unfold maxLen; omega,by omega,λc2 l6 hl6 => ?_⟩
     rw[i64w (by omega) (by omega)]
     have M14:=View.le_trans l13 l14
     refine⟨⟨a,t9l+1,_,rfl,ha3,by omega,hk,hl6,rfl,?_,hP'.imp (numC.le M14)⟩,by omega⟩
     rw[<-e0c]
     exact(hCb.imp (numC.le M14)).append (s01.one rfl hyc)
   . have et:t9l=ms.length:=by simp at hge2; have:t9l<=ms.length:=ht; omega
     subst et
     intro b6 V15 l15 hb6
     have hb:b09 V15 ⟨lstA b6 t9c,ms.length,t9c⟩ (rowL ms.length (fitB ms a)):=B07 hLb hb6 (hCb.imp (numC.le l15)) (by rw[Z00])
     have M15:=View.le_trans l11 (View.le_trans l12 l15)
     have sB:∀r,r<ms.length->(fitB ms a r).sz<=1100:=λr hr=>F0r (hz _ (List.mem_of_getElem? (B09 hr))) a
     refine(M0n 1100 (hM.le numC.le M15) hb (by omega) hn32 (by omega) (λr k _ _=>Nat.le_trans (q0p hi r k) (by omega)) sB _ rfl (j0f hn32).1 (Nat.le_trans (j0f hn32).2 (by decide))).mono λv V16 l16 ⟨r6,h6⟩ => ?_
     have hiff:=N0l (n:=3) (w:=4) (by omega) (by omega) (by omega) (augN 3 (nrmA ms.length (fitA ms)) (nrmB ms.length (fitA ms) (fitB ms a)))
     rw[p0p]at hiff
     cases hst:(elim numO 3 4 (augN 3 (nrmA ms.length (fitA ms)) (nrmB ms.length (fitA ms) (fitB ms a)))).2.2 with
     | some c =>
       rw[show(elim numO 3 (3+1) (augN 3 (nrmA ms.length A) (nrmB ms.length A (fitB ms a)))).2.2=some c from hst]at h6
       obtain⟨hv,hr⟩:=h6
       have hd:q06 ms=Cq.zero:=Classical.byContradiction λg=>by rw[hiff.2 g]at hst; simp at hst
       refine⟨r6,6,hv,λ_=>nil 6 V16 ?_ (by decide),λhf=>by simp at hf⟩
       unfold fitE
       rw[if_neg (by omega),if_pos hall,if_pos hd]
     | none =>
       rw[show(elim numO 3 (3+1) (augN 3 (nrmA ms.length A) (nrmB ms.length A (fitB ms a)))).2.2=none from hst]at h6
       obtain⟨hv,hx,hsz⟩:=h6
       have hx:b09 V16 r6 (rowL 3 (fitX ms a)):=hx
       have hxl:r6.len=3:=by have:=hx.len; rw[Z00]at this; exact this
       have hd:q06 ms≠Cq.zero:=hiff.1 hst
       refine⟨r6,0,hv,λhf=>by simp at hf,λ_=>⟨⟨a,0,rfl,ha3,rfl,by omega,hP'.imp (numC.le (View.le_trans l15 l16))⟩,?_⟩⟩
       rintro⟨t77,o7''⟩ V17 l17 ⟨a',k,ea,_,ek,hk3,hP3⟩
       dsimp only at ea ek hP3 ⊢
       obtain rfl:a=a':=by omega
       subst ek
       rw[hxl]
       refine⟨λhlt3 => ?_,λhge3 => ?_⟩
       . have hk:k<3:=by simp at hlt3; omega
         obtain⟨d1,y,hh,hs,hy⟩:=(hx.le l17).get (t:=(k:Int)) (by omega) (by rw[Z00,Int.toNat_natCast]; exact hk)
         rw[hxl]at d1
         have hyk:N00 V17 y (fitX ms a k):=by
          have e:nth (rowL 3 (fitX ms a)) (Int.toNat (k:Int))=fitX ms a k:=by rw[Int.toNat_natCast]; exact t0r hk _
          rw[e]at hy; exact hy
         refine⟨d1,y,hh,hs,⟨by omega,by omega⟩,⟨by omega,by omega⟩,?_,?_⟩
         . rw[hP3.length,Z00,Int.toNat_natCast,Int.toNat_natCast]; omega
         . rw[i64w (by omega) (by omega)]
           refine⟨⟨a,k+1,rfl,ha3,by omega,by omega,?_⟩,by omega⟩
           have hset:=hP3.set0 (i:=3*k+a) (by rw[Z00]; omega) (lenN y) (l0p hyk)
           rw[d0c]at hset
           rw[Int.toNat_natCast,Int.toNat_natCast]
           have e1:0+(3*k+a)*5=0+k*15+a*5:=by omega
           rw[e1]at hset
           rw[N04 (g:=L09 ms a (k+1)) (λq hq=>by
            unfold L09
            by_cases e:q=3*k+a
            . subst e
              have m1:(3*k+a)%3=a:=by omega
              have m2:(3*k+a) / 3=k:=by omega
              rw[if_pos rfl,m1,m2,if_pos (by omega)]
            . rw[if_neg e]
              by_cases c:q%3<a\/(q%3=a/\q / 3<k)
              . rw[if_pos c,if_pos (by omega)]
              . rw[if_neg c,if_neg (by omega)])]at hset
           exact hset
       . have ek:k=3:=by simp at hge3; omega
         subst ek
         rw[i64w (by omega) (by omega)]
         refine⟨⟨a+1,by omega,by omega,?_,λ_=>⟨hd,λb hb k hk => ?_⟩⟩,by omega⟩
         . rw[N04 (g:=L09 ms a 3) (λq hq=>by
             unfold L09
             by_cases c:q%3<a+1\/(q%3=a+1/\q / 3<0)
             . rw[if_pos c,if_pos (by omega)]
             . rw[if_neg c,if_neg (by omega)])]
           exact hP3
         . by_cases e:b<a
           . exact(hdone (by omega)).2 b e k hk
           . have:b=a:=by omega
             subst this
             have:=hsz k hk
             exact Nat.le_trans this (j0f hn32).2
 . have ea:a=3:=by simp at hge; omega
   subst ea
   obtain⟨hd,hsz⟩:=hdone (by omega)
   have hE:fitE ms=0:=by unfold fitE; rw[if_neg (by omega),if_pos hall,if_neg hd]
   have hg:∀k c,k<3->c<3->L09 ms 3 0 (3*k+c)=fitX ms c k:=λk c hk hc=>by
    unfold L09
    have m1:(3*k+c)%3=c:=by omega
    have m2:(3*k+c) / 3=k:=by omega
    rw[m1,m2,if_pos (by omega)]
   obtain⟨a0,o0,p00,p01,p02⟩:=W0c hP 0 (by omega)
   obtain⟨a1,o1,p10,p11,p12⟩:=W0c hP 1 (by omega)
   obtain⟨a2,o2,p20,p21,p22⟩:=W0c hP 2 (by omega)
   refine⟨⟨by omega,by omega⟩,a0,o0,⟨by omega,by omega⟩,a1,o1,⟨by omega,by omega⟩,a2,o2,?_⟩
   refine(z0c a0).mono λv V18 l18 hv=>⟨_,hv,(z0c a1).mono λv V19 l19 hv=>⟨_,hv,(z0c a2).mono λv V20 l20 hv=>⟨_,hv,⟨⟨a0.e0,a0.e1,a0.e2⟩,⟨a1.e0,a1.e1,a1.e2⟩,⟨a2.e0,a2.e1,a2.e2⟩⟩,?_,?_,?_⟩⟩⟩
   . rw[hE]
   . rw[hE,if_pos rfl]
     have K:=View.le_trans l18 (View.le_trans l19 l20)
     have g:=λk c hk hc (x:NumV) (hx:N00 V11 x (L09 ms 3 0 (3*k+c)))=>(show N00 V20 x (fitX ms c k)from by rw[hg k c hk hc]at hx; exact hx.le K)
     exact⟨⟨g 0 0 (by omega) (by omega) _ p00,g 0 1 (by omega) (by omega) _ p01,g 0 2 (by omega) (by omega) _ p02⟩,⟨g 1 0 (by omega) (by omega) _ p10,g 1 1 (by omega) (by omega) _ p11,g 1 2 (by omega) (by omega) _ p12⟩,
      ⟨g 2 0 (by omega) (by omega) _ p20,g 2 1 (by omega) (by omega) _ p21,g 2 2 (by omega) (by omega) _ p22⟩⟩
   . intro _
     exact⟨⟨hsz 0 (by omega) 0 (by omega),hsz 1 (by omega) 0 (by omega),hsz 2 (by omega) 0 (by omega)⟩,⟨hsz 0 (by omega) 1 (by omega),hsz 1 (by omega) 1 (by omega),hsz 2 (by omega) 1 (by omega)⟩,⟨hsz 0 (by omega) 2 (by omega),hsz 1 (by omega) 2 (by omega),hsz 2 (by omega) 2 (by omega)⟩⟩
theorem D0b{V:View}{n c:Nat}{w:List Value}{f:Nat->Int}(h1:1<=n)(hn:n<=w.length)(hw:n<=2^60)(hf:∀p,p<n->w[p]?=some (.int .u8 (f p))) :
 D0c Tryz.prog d07 (λb=>(Value.slice (some ⟨b,0,none⟩) n c::[]:List Value)) T_u8 w V λv l _=>v = .tuple #[]/\l.length=w.length/\l.take n=(w.take n).reverse:=by
 refine T06 0 n c w V _ (λ_ x _=>∃i j:Nat,x.t2=(i:Int)/\x.t3=(j:Int)/\j+i=n-1/\(i<=j+1)/\x.o0=revI w n i) (λ_ x _=>(x.t3-x.t2+2).toNat) ⟨⟨0,n-1,rfl,?_,by omega,by omega,(a0p w n).symm⟩,?_⟩
 . show IntKind.i64.wrap ((n:Int)-1)=_
   rw[i64w (by omega) (by omega)]; omega
 rintro⟨t,u,o⟩ V1 l1 ⟨i,j,rfl,rfl,hij,hi,rfl⟩
 have gd:∀p,p<n->w.getD p undef = .int .u8 (f p):=λp hp=>by simp[List.getD,hf p hp]
 dsimp only
 refine⟨λhlt => ?_,λhge => ?_⟩
 . simp only[decide_eq_true_eq]at hlt
   have hij':i<j:=by omega
   rw[i64w (n:=(i:Int)+1) (by omega) (by omega),i64w (n:=(j:Int)-1) (by omega) (by omega)]
   simp only[Int.toNat_natCast,Nat.mul_one,Nat.zero_add]
   refine⟨⟨by omega,by omega⟩,f j,?_,⟨by omega,by omega⟩,f i,?_,⟨by omega,by omega⟩,by rw[i05]; omega,⟨by omega,by omega⟩,by rw[List.length_set,i05]; omega,⟨i+1,j-1,by omega,by omega,by omega,by omega,?_⟩,by omega⟩
   . rw[Q0l (by omega) (by omega) (by omega),gd j (by omega)]
   . rw[Q0l (by omega) (by omega) (by omega),gd i (by omega)]
   . have:=b0p (o:=w) hn hij hij'
     rw[gd i (by omega),gd j (by omega)]at this
     exact this
 . simp only[decide_eq_false_iff_not]at hge
   exact⟨rfl,i05 _ _ _,o0q hn (by omega)⟩
theorem w0q{l:List Nat}{p:Nat}(h:p<l.length):(digC l)[p]?=some (.int .u8 ((48+l.getD p 0:Nat):Int)):=by simp[digC,h]
theorem P0s{r:Nat}:IntKind.u8.wrap (IntKind.u32.wrap (48+(Int.tmod (r:Int) 10)))=((48+r%10:Nat):Int):=by
 rw[show Int.tmod (r:Int) 10=((r%10:Nat):Int)from(Int.ofNat_tmod r 10).symm,u32w (by omega) (by omega),IntWalk.u8_in _ ⟨by omega,by omega⟩]; omega
theorem u32q{r:Nat}(h:r<4294967296):IntKind.u32.wrap (Int.tdiv (r:Int) 10)=((r / 10:Nat):Int):=by
 rw[show Int.tdiv (r:Int) 10=((r / 10:Nat):Int)from(Int.ofNat_tdiv r 10).symm,u32w (by omega) (by omega)]
theorem oneC(n:Int):∀v∈[Value.int .u8 n],Value.oneCell' v=true:=by intro v hv; simp at hv; subst hv; rfl
theorem T07{V:View}{s:Sl}{N:Nat}(h:X00 V s N)(hb:bl N<=2^42) :
 a00 Tryz.prog N0i #[s.v] V λv _=>v = .string (decS N):=by
 have hz:=h.len_zero
 have hlow:=J0g N
 refine u0h s V _
  (λ_ x V'=>∃(X:Nat) (dl:List Nat),X00 V' x.t0 X/\X<=N/\Z03 1 x.t3l x.t3c x.o3 (digC dl)/\x.t3l=dl.length/\low N=dl++low X) (λ_ x V'=>P0e V' x.t0)
  (λc x V'=>∃(q r k:Nat) (dl:List Nat),X00 V' c.t0 q/\q<=N/\x.t4=(r:Int)/\x.t5=(k:Int)/\k<=9/\r<10^(9-k)/\Z03 1 x.t3l x.t3c x.o3 (digC dl)/\x.t3l=dl.length/\low N=dl++low (q*10^(9-k)+r)) (λ_ x _=>(9-x.t5).toNat)
  ⟨λh0 => ?_,λh0=>⟨⟨N,[],h,Nat.le_refl _,Z03.nil,rfl,rfl⟩,?_⟩⟩
 . have:s.len=0:=by have:(s.len:Int)=0:=(by simpa using h0); omega
   rw[hz.1 this,X0o]
 have hN0:N≠0:=by
  intro e; rw[<-hz]at e; rw[e]at h0; simp at h0
 rintro⟨t0,n,c,o⟩ V1 l1 ⟨X,dl,hX,hXN,hlo,hn,hval⟩
 dsimp only at hX hlo hn ⊢
 have hXz:=hX.len_zero
 refine⟨λhp => ?_,λhp => ?_⟩
 . simp only[gt_iff_lt,decide_eq_true_eq]at hp
   have hX0:X≠0:=λe=>by rw[<-hXz]at e; omega
   have hbX:bl X<=2^42:=Nat.le_trans (z0b hXN) hb
   refine(k0b (d:=1000000000) hX (E0n (by omega)) (by omega) (by omega)).mono λv V2 l2 ⟨r1,hv,h1⟩=>⟨r1,_,hv,⟨X / 1000000000,X%1000000000,0,dl,h1,Nat.le_trans (Nat.div_le_self _ _) hXN,rfl,rfl,by omega,?_,hlo,hn,?_⟩,?_⟩
   . exact Nat.mod_lt _ (by omega)
   . have:X / 1000000000*10^(9-0)+X%1000000000=X:=by
       rw[show(10:Nat)^(9-0)=1000000000 by decide]; omega
     rw[this]; exact hval
   rintro⟨n3,c3,r3,k3,o3⟩ V3 l3 ⟨q,r,k,dl3,hq,hqN,rfl,rfl,hk,hr,hlo3,hn3,hval3⟩
   dsimp only at hq hlo3 hn3 ⊢
   have hqe:=hq.inj (h1.le l3)
   have hlt9:r<1000000000:=Nat.lt_of_lt_of_le hr (by
    have:(10:Nat)^(9-k)<=10^9:=Nat.pow_le_pow_right (by omega) (by omega)
    exact Nat.le_trans this (by decide))
   have hl3:dl3.length<=2^42:=by
    have:=congrArg List.length hval3
    rw[List.length_append]at this; omega
   have hqz:=hq.len_zero
   have step:(q≠0\/r≠0)->k<9->∀(b1:Nat) (V4:View),V3.le V4->View.Fin V4->V4 b1=some #[.int .u8 (IntKind.u8.wrap (IntKind.u32.wrap (48+(Int.tmod (r:Int) 10))))] ->
    ∃(l1:List Value) (l2:List Value),Z03 1 n3 c3 o3 l1/\View.has V4 (some (Addr.mk b1 0 none)) l2/\List.length l2=1*1/\(∀v∈l2,Value.oneCell' v=true)/\n3+1<=maxLen/\(n3+1)*1<=140737488355328 /\
    ∀(c1:Nat) (l3:List Value),Z03 1 (n3+1) c1 l3 (l1++l2) ->
    (∃(q' r' k':Nat) (dl:List Nat),X00 V4 r1 q'/\q'<=N/\(IntKind.u32.wrap (Int.tdiv (r:Int) 10))=(r':Int)/\(IntKind.i64.wrap ((k:Int)+1))=(k':Int)/\k'<=9/\r'<10^(9-k')/\Z03 1 (n3+1) c1 l3 (digC dl)/\n3+1=dl.length/\low N=dl++low (q'*10^(9-k')+r'))/\(9-(IntKind.i64.wrap ((k:Int)+1))).toNat<(9-(k:Int)).toNat:=by
    intro hne hk9 b1 V4 l4 _ hb1
    rw[P0s]at hb1
    have hrr:r / 10<10^(9-(k+1)):=by
     have:10^(9-k)=10^(9-(k+1))*10:=by rw[<-Nat.pow_succ]; congr 1; omega
     omega
    have hst:=n0q (q:=q) (r:=r) (k:=9-(k+1)) hne
    rw[show 9-(k+1)+1=9-k by omega]at hst
    refine⟨digC dl3,[.int .u8 ((48+r%10:Nat):Int)],hlo3,d0f hb1,rfl,oneC _,Nat.le_trans (show n3+1<=2^43 by omega) (by decide),by omega,λc1 l3' hl3'=>⟨⟨q,r / 10,k+1,dl3++[r%10],hq.le l4,hqN,u32q (by omega),by rw[i64w (by omega) (by omega)]; omega,hk9,hrr,?_,by simp[hn3],?_⟩,by rw[i64w (by omega) (by omega)]; omega⟩⟩
    . rw[<-W0k]; exact hl3'
    . rw[hval3,hst]; simp
   have stop:(k=9\/q=0/\r=0)->(∃(X:Nat) (dl:List Nat),X00 V3 r1 X/\X<=N/\Z03 1 n3 c3 o3 (digC dl)/\n3=dl.length/\low N=dl++low X)/\P0e V3 r1<P0e V1 t0:=by
    intro hs
    refine⟨⟨q,dl3,hq,hqN,hlo3,hn3,?_⟩,?_⟩
    . rcases hs with rfl|⟨rfl,rfl⟩
      . have:r=0:=by simp at hr; omega
        subst this
        simpa using hval3
      . simpa using hval3
    . rw[a09 hq,a09 hX,hqe]
      omega
   refine⟨λhk9=>⟨λhq1=>⟨λ_=>step (.inl ?_) (by have:(k:Int)<9:=(by simpa using hk9); omega),λh=>absurd h (by simp)⟩,λhq1=>⟨λhr1=>step (.inr ?_) (by have:(k:Int)<9:=(by simpa using hk9); omega),λhr1=>stop (.inr ⟨?_,?_⟩)⟩⟩,λhk9=>⟨λh=>absurd h (by simp),λ_=>stop (.inl ?_)⟩⟩
   . simp only[gt_iff_lt,decide_eq_true_eq]at hq1
     intro e; rw[<-hqz]at e; omega
   . simp only[gt_iff_lt,decide_eq_true_eq]at hr1; omega
   . simp only[gt_iff_lt,decide_eq_false_iff_not]at hq1; exact hqz.1 (by omega)
   . simp only[gt_iff_lt,decide_eq_false_iff_not]at hr1; omega
   . simp only[decide_eq_false_iff_not]at hk9; omega
 . simp only[gt_iff_lt,decide_eq_false_iff_not]at hp
   have hX0:X=0:=hXz.1 (by omega)
   rw[hX0,K0h,List.append_nil]at hval
   subst hval
   have hd0:low N≠[]:=by rw[L0h hN0]; simp
   have hl0:0<(low N).length:=List.length_pos_iff.2 hd0
   have hle:=hlo.le
   have htk:=hlo.take
   have hol:=hlo.len
   rw[Nat.mul_one]at htk hol
   have htl:n<=o.length:=by omega
   have g:∀p,p<n->o[p]?=some (.int .u8 (((48+(low N).getD p 0:Nat):Nat):Int)):=by
    intro p hp'
    rw[<-List.getElem?_take_of_lt hp',htk]
    exact w0q (by omega)
   refine⟨⟨by intro e; rw[e]at htl; simp at htl; omega,⟨by omega,trivial⟩,trivial⟩,?_⟩
   refine(D0b (c:=c) (f:=λp=>((48+(low N).getD p 0:Nat):Int)) (by omega) htl (by omega) g).mono λv l10 V7 l7 ⟨hv,hl10,ht10⟩=>⟨hv,λb4 V8 l8 hb4 => ?_⟩
   refine⟨decL N,?_,by rw[Y0e hN0]; omega,rfl,rfl⟩
   rw[htk,p0q hN0]at ht10
   intro j v hj
   have hjl:j<n:=by
    rcases Nat.lt_or_ge j n with h|h
    . exact h
    . rw[List.getElem?_eq_none (by simp[Y0e hN0]; omega)]at hj; simp at hj
   rw[D07 hb4]
   rw[<-ht10,List.getElem?_take_of_lt hjl]at hj
   simpa using hj
def U07(a:Int)(d:Nat):Cq:=⟨(a:Rat) / (d:Rat),0⟩
theorem J0j{a:Int}{d:Nat}(h:d≠0):Rep (U07 a d) a 0 d:=⟨h,rfl,by show(0:Rat)=_; rw[Rat.div_def]; simp⟩
theorem J0q(z:Cq):(⟨z.re,0⟩:Cq)=U07 z.A z.D:=Cq.ext' z.canon.rep.re rfl
theorem K0q(z:Cq):(⟨z.im,0⟩:Cq)=U07 z.B z.D:=Cq.ext' z.canon.rep.im rfl
theorem s0p{a:Int}{d:Nat}(h:d≠0):(U07 a d).A.natAbs=a.natAbs / Nat.gcd a.natAbs d/\(U07 a d).D=d / Nat.gcd a.natAbs d/\((U07 a d).A<0↔a<0):=by
 obtain⟨e1,e2,e3⟩:=(J0j (a:=a) h).eqs
 have hg:gcd3 a 0 d=Nat.gcd a.natAbs d:=by simp[gcd3]
 have d1:=o0a a 0 d
 have k1:=l05 d1
 have k2:=Q07 d1 (Z0d a 0 h)
 rw[e1,e3,k1,hg]
 rw[hg]at k2
 exact⟨rfl,rfl,by simpa using k2⟩
theorem b0m{a:Int}{d:Nat}(h:d≠0):bl (U07 a d).A.natAbs<=bl a.natAbs/\bl (U07 a d).D<=bl d:=by
 obtain⟨e1,e2,_⟩:=s0p (a:=a) h
 rw[e1,e2]
 exact⟨z0b (Nat.div_le_self _ _),z0b (Nat.div_le_self _ _)⟩
def ratT(a:Int)(d:Nat):ByteArray:=ratS (U07 a d).A (U07 a d).D
theorem C09{V:View}{x:WhV}{s:Sl}{a:Int}{d:Nat}(hx:B04 V x a)(hs:X00 V s d)(hd:d≠0)(ha:bl a.natAbs<=2^41)(hdb:bl d<=2^41) :
 a00 Tryz.prog c0n #[x.val,s.v] V λv _=>v = .string (ratT a d):=by
 obtain⟨b1,b2⟩:=b0m (a:=a) hd
 have s1:=n0c (U07 a d).A.natAbs
 have s2:=n0c (U07 a d).D
 have hmax:IntKind.i64.max=9223372036854775807:=by decide
 have z1:(ByteArray.mk #[45]).size=1:=rfl
 have z2:(ByteArray.mk #[47]).size=1:=rfl
 refine L0k x s V _ ((J04 hx (B04.zero V) hs (J0j hd) (E0n (by omega)) (by rw[show Int.natAbs 0=0 from rfl,A08]; omega) (E0n (by omega))).mono λv V1 l1 ⟨r,hv,hr⟩=>⟨r,hv,?_⟩)
 have hu:=hr.under
 have hn:=hr.re.1
 have hD:=(U07 a d).D_pos
 refine(T07 hr.re.2 (by omega)).mono λv V2 l2 hv=>⟨_,hv,λhneg=>⟨by rw[z1,hmax]; omega,λhul => ?_,λhul => ?_⟩,λhneg=>⟨λhul => ?_,λhul => ?_⟩⟩
 . simp only[gt_iff_lt,decide_eq_true_eq]at hul
   have h1:(U07 a d).D≠1:=λe=>by rw[e,if_pos rfl]at hu; have:=hu.len_zero.2 rfl; omega
   rw[if_neg h1]at hu
   refine(T07 (hu.le l2) (by omega)).mono λv V3 l3 hv=>⟨_,hv,by rw[z2,hmax]; omega,by rw[E07,E07,z1,z2,hmax]; omega,?_⟩
   unfold ratT ratS
   rw[hneg]at hn
   have hn:(U07 a d).A<0:=of_decide_eq_true hn.symm
   simp only[hn,h1,if_true,if_false]; rfl
 . simp only[gt_iff_lt,decide_eq_false_iff_not]at hul
   have h1:(U07 a d).D=1:=by
    have:=hu.len_zero.1 (by omega)
    split at this<;>omega
   unfold ratT ratS
   rw[hneg]at hn
   have hn:(U07 a d).A<0:=of_decide_eq_true hn.symm
   simp only[hn,h1,if_true]; rfl
 . simp only[gt_iff_lt,decide_eq_true_eq]at hul
   have h1:(U07 a d).D≠1:=λe=>by rw[e,if_pos rfl]at hu; have:=hu.len_zero.2 rfl; omega
   rw[if_neg h1]at hu
   refine(T07 (hu.le l2) (by omega)).mono λv V3 l3 hv=>⟨_,hv,by rw[z2,hmax]; omega,by rw[E07,z2,hmax]; omega,?_⟩
   unfold ratT ratS
   rw[hneg]at hn
   have hn:¬(U07 a d).A<0:=of_decide_eq_false hn.symm
   simp only[hn,h1,if_false]; rfl
 . simp only[gt_iff_lt,decide_eq_false_iff_not]at hul
   have h1:(U07 a d).D=1:=by
    have:=hu.len_zero.1 (by omega)
    split at this<;>omega
   unfold ratT ratS
   rw[hneg]at hn
   have hn:¬(U07 a d).A<0:=of_decide_eq_false hn.symm
   simp only[hn,h1,if_false,if_true]
theorem z0s(z:Cq):cqS z=if z.B=0 then ratT z.A z.D else if z.A=0 then ratT z.B z.D++strI else if z.B<0 then ratT z.A z.D++(ratT z.B z.D++strI)else ratT z.A z.D++(Y0o++(ratT z.B z.D++strI)):=by
 unfold cqS
 rw[J0q,K0q]; rfl
theorem K0j{a:Int}{d:Nat}(h:d≠0):(ratT a d).size<=bl a.natAbs+bl d+4:=by
 have h1:=Z0o (U07 a d).A (U07 a d).D
 obtain⟨b1,b2⟩:=b0m (a:=a) h
 unfold ratT; omega
theorem lenT(n:Nat):(((n:Int)==0)=true↔n=0):=by simp
theorem A0c{V:View}{x:NumV}{z:Cq}(hx:N00 V x z)(hz:z.sz<=2^40):a00 Tryz.prog W0m #[x.val] V λv _=>v = .string (cqS z):=by
 have zA:=z.szA; have zB:=z.szB; have zD:=z.szD
 have hD:=z.D_pos
 have t1:=K0j (a:=z.A) hD
 have t2:=K0j (a:=z.B) hD
 have hmax:IntKind.i64.max=9223372036854775807:=by decide
 have z1:(ByteArray.mk #[105]).size=1:=rfl
 have z2:(ByteArray.mk #[43]).size=1:=rfl
 rw[z0s]
 refine M0k x V _ ((M03 hx).mono λv V1 l1 hv=>⟨_,hv,λhr => ?_,λhr => ?_⟩)
 . have hB:z.B=0:=by
     rw[Cq.B_zero]; simpa using hr
   refine(j02 (hx.le l1)).mono λv V2 l2 ⟨r,hv,h2⟩=>⟨r,hv,?_⟩
   refine(C09 (hx.re.le (View.le_trans l1 l2)) h2 hD (by omega) (by omega)).mono λv V3 l3 hv=>⟨_,hv,?_⟩
   rw[if_pos hB]
 . have hB:¬z.B=0:=by
     rw[Cq.B_zero]; simpa using hr
   rw[if_neg hB]
   refine(j02 (hx.le l1)).mono λv V2 l2 ⟨r,hv,h2⟩=>⟨r,hv,?_⟩
   refine(C09 (hx.im.le (View.le_trans l1 l2)) h2 hD (by omega) (by omega)).mono λv V3 l3 hv=>⟨_,hv,by rw[z1,hmax]; omega,λhA => ?_,λhA=>⟨λhn=>⟨by rw[E07,z1,z2,hmax]; omega,?_⟩,λhn => ?_⟩⟩
   . have hA:z.A=0:=by
       have:=(lenT _).1 hA
       have:=hx.re.2.len_zero.1 this; omega
     rw[if_pos hA]; rfl
   all_goals
    have hA:¬z.A=0:=by
     intro e
     have:=hx.re.2.len_zero.2 (by omega)
     rw[this]at hA; simp at hA
    rw[if_neg hA]
    have hneg:=hx.im.1
    refine(j02 (hx.le (View.le_trans l1 (View.le_trans l2 l3)))).mono λv V4 l4 ⟨r4,hv,h4⟩=>⟨r4,hv,?_⟩
    refine(C09 (hx.re.le (View.le_trans l1 (View.le_trans l2 (View.le_trans l3 l4)))) h4 hD (by omega) (by omega)).mono λv V5 l5 hv=>⟨_,hv,by simp only[E07,z1,z2]; rw[hmax]; omega,?_⟩
   . have hn:¬z.B<0:=by
       have:x.im.neg=false:=by simpa using hn
       rw[this]at hneg; exact of_decide_eq_false hneg.symm
     rw[if_neg hn]; rfl
   . have hn:z.B<0:=by
       have:x.im.neg=true:=by simpa using hn
       rw[this]at hneg; exact of_decide_eq_true hneg.symm
     rw[if_pos hn]; rfl
theorem fd32(z:Nat):Int.fdiv (z:Int) (2^(min (Int.toNat 32) (IntKind.u64.bits)))=((z / 4294967296:Nat):Int):=by
 have e2:(2:Int)^(min (Int.toNat 32) (IntKind.u64.bits))=4294967296:=by decide
 rw[e2,Int.fdiv_eq_ediv_of_nonneg _ (by omega)]; omega
theorem u32n(z:Nat):IntKind.u32.wrap (z:Int)=((z%4294967296:Nat):Int):=by rw[u32m]; omega
theorem u64n{z:Nat}(h:z<18446744073709551616):IntKind.u64.wrap (z:Int)=(z:Int):=u64w (by omega) (by omega)
theorem t0p(c:Prop) [Decidable c](a:Option Addr):(if c then a else Option.map (λq=>Addr.add q (Int.toNat 0*1)) a)=a:=by
 have e:(λq:Addr=>Addr.add q (Int.toNat 0*1))=id:=by funext q; simp[Addr.add]
 rw[e]; simp
theorem O04{V:View}{s:Sl}{l:List Nat}(h:H01 V s l)(hs:l.length<=2^50) :
 a00 Tryz.prog B0k #[s.v] V λv V'=>∃r:Sl,v=r.v/\X00 V' r (wval l):=by
 have hlen:=h.len
 refine f0j s V _ (λ_ x _=>0<=x.t3/\x.t3<=s.len/\∀d∈l.drop x.t3.toNat,d=0) (λ_ x _=>x.t3.toNat) ⟨⟨Int.natCast_nonneg _,Int.le_refl _,?_⟩,?_⟩
 . intro d hd
   simp only[Int.toNat_natCast,hlen,List.drop_length]at hd
   simp at hd
 rintro⟨t⟩ V1 hle ⟨h0,h1,h2⟩
 simp only at h0 h1 h2 ⊢
 have hcap:=h.cap
 have out:t=0\/l.getD (t.toNat-1) 0≠0->X00 V1 (Sl.mk (if s.cap=Int.toNat 0 then s.a else Option.map (λq=>Addr.add q (Int.toNat 0*1)) s.a) (Int.toNat t-Int.toNat 0) (s.cap-Int.toNat 0)) (wval l):=by
  intro hz
  have hw:wval l=wval (l.take t.toNat):=by
   rw[Y0b l t.toNat,t0d h2]; omega
  rw[hw,t0p]
  refine X0j ⟨?_,?_,?_,h.wb.take _⟩ ?_
  . intro i d hi
    have hi':i<t.toNat:=by
     rcases Nat.lt_or_ge i t.toNat with h|h
     . exact h
     . rw[List.getElem?_eq_none (by simp; omega)]at hi; simp at hi
    rw[List.getElem?_take_of_lt hi']at hi
    exact Q02 hle (h.load i d hi)
  . simp; omega
  . simp only[Int.toNat_zero]; omega
  . intro d hd
    rcases hz with rfl|hz
    . simp at hd
    . have h3:t.toNat≠0:=by
        intro e; rw[e]at hd; simp at hd
      rw[List.getLast?_eq_getElem?]at hd
      have h4:(l.take t.toNat).length=t.toNat:=by simp; omega
      rw[h4,List.getElem?_take_of_lt (by omega)]at hd
      simp only[List.getD,hd,Option.getD_some]at hz
      exact hz
 refine⟨λhp => ?_,λhp=>⟨by simp,λ_=>⟨⟨by omega,by omega,by omega⟩,_,rfl,out (.inl ?_)⟩⟩⟩
 . simp only[decide_eq_true_eq]at hp
   rw[i64w (by omega) (by omega)]
   refine⟨⟨by omega,by omega,h.isSome (by omega)⟩,_,(h.le hle).get (by omega) (by omega),λhz => ?_,λhz=>⟨⟨by omega,by omega,by omega⟩,_,rfl,out (.inr ?_)⟩⟩
   . simp only[beq_iff_eq]at hz
     refine⟨⟨by omega,by omega,λd hd => ?_⟩,by omega⟩
     have hlt:(t-1).toNat<l.length:=by omega
     rw[List.drop_eq_getElem_cons hlt]at hd
     rcases List.mem_cons.1 hd with rfl|hd
     . simp only[List.getD,List.getElem?_eq_getElem hlt,Option.getD_some]at hz; omega
     . exact h2 d (by rw[show(t-1).toNat+1=t.toNat by omega]at hd; exact hd)
   . simp only[beq_eq_false_iff_ne,ne_eq]at hz
     rw[show t.toNat-1=(t-1).toNat by omega]
     intro e; rw[e]at hz; exact hz rfl
 . simp only[decide_eq_false_iff_not]at hp; omega
theorem W07{V:View}{n:Int}(h0:0<=n)(h1:n<=18446744073709551615) :
 a00 Tryz.prog Q0i #[.int .u64 n] V λv V'=>∃r:Sl,v=r.v/\X00 V' r n.toNat:=by
 refine x0h n V _ λb V1 hle _ hb => ?_
 obtain⟨m,rfl⟩:∃m:Nat,n=m:=⟨n.toNat,by omega⟩
 rw[fd32,u32n,u32n,Nat.mod_eq_of_lt (show m / 4294967296<4294967296 by omega)]at hb
 have hw:H01 V1 (Sl.mk (some (Addr.mk b 0 none)) 2 2) [m%4294967296,m / 4294967296] :=
  H01.of_block (by rw[hb]; rfl) rfl (by omega) (by intro d hd; simp at hd; omega)
 refine(O04 hw (by simp)).mono λv V' _ ⟨r,hv,hr⟩=>⟨r,hv,_,rfl,?_⟩
 have:wval [m%4294967296,m / 4294967296]=(m:Int).toNat:=by simp[wval]; omega
 rw[this]at hr; exact hr
theorem N0d{V:View}{s t:Sl}{a b:Nat}(hs:X00 V s a)(ht:X00 V t b)(hb:wn a<=2^50) :
 a00 Tryz.prog i0h #[s.v,t.v] V λv _=>v = .int .i64 (if a<b then -1 else if a=b then 0 else 1):=by
 have h1:=hs.len
 have h2:=ht.len
 simp only[wn]at hb
 refine S0f s t V _ (λ_ x _ => -1<=x.t5/\x.t5<s.len/\(dig a).drop (x.t5+1).toNat=(dig b).drop (x.t5+1).toNat) (λ_ x _=>(x.t5+1).toNat) ⟨λhne=>⟨λhlt => ?_,λhlt => ?_⟩,λhe=>⟨?_,?_⟩⟩
 . have:=Q0a (a:=a) (b:=b) (by simpa [h1,h2]using hlt)
   simp[this]
 . have hne:¬(s.len:Int)=t.len:=by simpa using hne
   have hlt:¬s.len<t.len:=by simpa using hlt
   have:=Q0a (a:=b) (b:=a) (by omega)
   rw[if_neg (by omega),if_neg (by omega)]
 . have he:(s.len:Int)=t.len:=by simpa using he
   rw[i64w (by omega) (by omega)]
   refine⟨?_,?_,?_⟩
   . show(-1:Int)<=s.len-1; omega
   . show(s.len:Int)-1<s.len; omega
   . rw[List.drop_eq_nil_of_le,List.drop_eq_nil_of_le]<;>simp<;>omega
 . have he:(s.len:Int)=t.len:=by simpa using he
   rintro⟨i⟩ V1 hle ⟨i0,i1,hd⟩
   simp only at i0 i1 hd ⊢
   refine⟨λhp => ?_,λhp => ?_⟩
   . simp only[ge_iff_le,decide_eq_true_eq]at hp
     refine⟨⟨by omega,by omega,hs.isSome (by omega)⟩,_,(hs.le hle).get (by omega) (by omega),⟨by omega,by omega,ht.isSome (by omega)⟩,_,(ht.le hle).get (by omega) (by omega),λhne =>
      ⟨⟨by omega,by omega,hs.isSome (by omega)⟩,_,(hs.le hle).get (by omega) (by omega),⟨by omega,by omega,ht.isSome (by omega)⟩,_,(ht.le hle).get (by omega) (by omega),λhlt => ?_,λhge => ?_⟩,λheq => ?_⟩
     . have hlt:(dig a).getD i.toNat 0<(dig b).getD i.toNat 0:=by simpa using hlt
       have:=S0a (s04 a) (by omega) (i:=i.toNat) (by omega) (by rw[show i.toNat+1=(i+1).toNat by omega]; exact hd) hlt
       rw[F01,F01]at this
       simp[this]
     . have hne:¬(dig a).getD i.toNat 0=(dig b).getD i.toNat 0:=by
         intro e; rw[e]at hne; simp at hne
       have hge:¬(dig a).getD i.toNat 0<(dig b).getD i.toNat 0:=by simpa using hge
       have:=S0a (s04 b) (by omega) (i:=i.toNat) (by omega) (by rw[show i.toNat+1=(i+1).toNat by omega]; exact hd.symm) (by omega:(dig b).getD i.toNat 0<(dig a).getD i.toNat 0)
       rw[F01,F01]at this
       rw[if_neg (by omega),if_neg (by omega)]
     . have heq:(((dig a).getD i.toNat 0:Nat):Int)=(((dig b).getD i.toNat 0:Nat):Int):=by simpa using heq
       rw[i64w (by omega) (by omega)]
       refine⟨⟨by show(-1:Int)<=i-1; omega,by show i-1<(s.len:Int); omega,?_⟩,by show(i-1+1).toNat<(i+1).toNat; omega⟩
       have e:(i-1+1).toNat=i.toNat:=by omega
       show(dig a).drop (i-1+1).toNat=(dig b).drop (i-1+1).toNat
       rw[e,List.drop_eq_getElem_cons (by omega:i.toNat<(dig a).length),List.drop_eq_getElem_cons (by omega:i.toNat<(dig b).length)]
       have e2:i.toNat+1=(i+1).toNat:=by omega
       rw[e2,hd]
       congr 1
       simp only[List.getD,List.getElem?_eq_getElem (by omega:i.toNat<(dig a).length),List.getElem?_eq_getElem (by omega:i.toNat<(dig b).length),Option.getD_some]at heq
       omega
   . simp only[ge_iff_le,decide_eq_false_iff_not]at hp
     have e:(i+1).toNat=0:=by omega
     rw[e]at hd
     have:=g0p (by simpa using hd)
     subst this
     simp
theorem B0c{V:View}{s:Sl}{a d:Nat}(hs:X00 V s a)(ha:wn a<=2^45)(hd0:0<d)(hd:d<4294967296) :
 a00 Tryz.prog F0e #[s.v,.int .u32 (d:Int)] V λv V'=>∃r:Sl,v = .tuple #[r.v,.int .u32 ((a%d:Nat):Int)]/\X00 V' r (a / d):=by
 have hsl:=hs.len
 simp only[wn]at ha
 refine J0d s d V _
  (λ_ x _=>∃(j k rest:Nat) (l:List Nat),x=q01.mk (rest:Nat) ((j:Int)-1) (wv l)/\j+k=s.len/\WB l/\l.length=s.len/\rest<d/\seg (dig a) j k=seg l j k*d+rest)
  (λ_ x _=>(x.t8+1).toNat) ⟨⟨by omega,by omega,by omega,by omega⟩,⟨s.len,0,0,List.replicate s.len 0,?_,by omega,WB.zeros _,by simp,hd0,by simp[o04]⟩,?_⟩
 . rw[i64w (by omega) (by omega),Int.toNat_natCast,I04]; rfl
 rintro _ V1 hle ⟨j,k,rest,l,rfl,hjk,hwb,hl,hr,hval⟩
 refine⟨λhp => ?_,λhp b1 V3 hle3 hb1 => ?_⟩
 . simp only[ge_iff_le,decide_eq_true_eq]at hp
   obtain⟨i,rfl⟩:∃i,j=i+1:=⟨j-1,by omega⟩
   simp only[show(((i+1:Nat):Int)-1)=(i:Nat)by omega,Int.toNat_natCast]
   have hw:=(s04 a).getD i
   have h1:(rest*4294967296+(dig a).getD i 0) / d<4294967296:=by
    rw[Nat.div_lt_iff_lt_mul (by omega)]
    have:=Nat.mul_le_mul_right 4294967296 (Nat.succ_le_of_lt hr)
    rw[Nat.succ_mul]at this
    omega
   have h2:(rest*4294967296+(dig a).getD i 0)%d<d:=Nat.mod_lt _ (by omega)
   have e:(2:Int)^(min (Int.toNat 32) (IntKind.u64.bits))=4294967296:=by decide
   refine⟨⟨by omega,by omega,hs.isSome (by omega)⟩,_,(hs.le hle).get (i:=(i:Nat)) (by omega) (by omega),?_⟩
   simp only[Int.toNat_natCast]
   rw[u64n (z:=d) (by omega),u64n (z:=(dig a).getD i 0) (by omega),e,show(rest:Int)*4294967296=((rest*4294967296:Nat):Int)by omega,u64n (z:=rest*4294967296) (by omega),or64 hw (by omega),
    u64n (z:=rest*4294967296+(dig a).getD i 0) (by omega),<-Int.ofNat_tdiv,<-Int.ofNat_tmod,u64n (by omega),u32n,Nat.mod_eq_of_lt h1,i64w (by omega) (by omega),show 0+i*1=i by omega,M04]
   refine⟨by omega,⟨by omega,by omega⟩,by rw[Y00]; omega,by omega,⟨i,k+1,_,_,rfl,by omega,hwb.set h1,by simpa using hl,Nat.mod_lt _ hd0,?_⟩,by show((i:Int)-1+1).toNat<((i:Int)+1).toNat; omega⟩
   rw[Nat.add_comm k 1,j06,j06 _ i 1 k,hval,t06 (j:=i+1) (by omega),X01,X01,o04,o04,Nat.add_zero,X04,if_pos ⟨rfl,by omega⟩]
   have:=Nat.div_add_mod (rest*4294967296+(dig a).getD i 0) d
   generalize (rest*4294967296+(dig a).getD i 0) / d=q at *
   generalize (rest*4294967296+(dig a).getD i 0)%d=m at *
   simp only[Nat.pow_zero,Nat.mul_one,Nat.pow_one,Nat.zero_add,Nat.mul_add,Nat.add_mul]
   have e2:4294967296*(seg l (i+1) k*d)=4294967296*seg l (i+1) k*d:=by rw[Nat.mul_assoc]
   have e3:q*d=d*q:=Nat.mul_comm _ _
   omega
 . simp only[ge_iff_le,decide_eq_false_iff_not]at hp
   have hj:j=0:=by omega
   subst hj
   have hk:k=s.len:=by omega
   subst hk
   have hw:H01 V3 (Sl.mk (some (Addr.mk b1 0 none)) (Int.toNat (s.len:Int)) (Int.toNat (s.len:Int))) l:=H01.of_block hb1 (by omega) (Nat.le_refl _) hwb
   rw[i06 (by omega),i06 (by omega),F01]at hval
   have e1:a / d=wval l:=by rw[hval,Nat.mul_comm,Nat.mul_add_div hd0,Nat.div_eq_of_lt hr]; omega
   have e2:a%d=rest:=by rw[hval,Nat.mul_comm,Nat.mul_add_mod,Nat.mod_eq_of_lt hr]
   refine(O04 hw (by omega)).mono λv V6 _ ⟨r,hv,hr⟩=>⟨r,hv,r,?_,?_⟩
   . rw[e2,u32n,Nat.mod_eq_of_lt (by omega)]
   . rw[e1]; exact hr
theorem H0r{x:Nat}(h:x≠0):bl x=bl (x / 2)+1:=by
 by_cases h1:x=1
 . subst h1; decide
 . have:=D0l (m:=x) 1 (by omega)
   simpa using this
theorem X0c{V:View}{s:Sl}{a:Nat}(hs:X00 V s a)(ha:wn a<=2^45) :
 a00 Tryz.prog H0f #[s.v] V λv _=>v = .int .i64 (bl a:Nat):=by
 have hsl:=hs.len
 have hwn:wn a=s.len:=by simp only[wn]; exact hsl.symm
 refine M0e s V _ (λ_ x _=>∃k y:Nat,x=x01.mk (k:Nat) (y:Nat)/\k+bl y=bl ((dig a).getD (wn a-1) 0)/\k<=32) (λ_ x _=>x.t4.toNat) ⟨λh => ?_,λh => ?_⟩
 . have h:(s.len:Int)=0:=by simpa using h
   have:a=0:=t04.1 (by omega)
   subst this; rfl
 . have h:¬(s.len:Int)=0:=by simpa using h
   have ha0:a≠0:=by rintro rfl; rw[A08]at hwn; omega
   rw[i64w (n:=(s.len:Int)-1) (by omega) (by omega)]
   have e:Int.toNat ((s.len:Int)-1)=wn a-1:=by omega
   have h2:=t0s ha0
   have h3:bl ((dig a).getD (wn a-1) 0)<=32:=by
    have h3:=(F07 ha0).2.2
    have:=F0h h3
    have:=(s04 a).getD (wn a-1)
    have:=(Nat.pow_lt_pow_iff_right (a:=2) (n:=bl ((dig a).getD (wn a-1) 0)-1) (m:=32) (by omega)).1 (by omega)
    omega
   refine⟨⟨by omega,by omega,hs.isSome (by omega)⟩,_,hs.get (by omega) (by omega),⟨0,_,rfl,by rw[e]; omega,by omega⟩,?_⟩
   rintro _ V1 l1 ⟨k,y,rfl,hk,hk2⟩
   refine⟨λhp => ?_,λhp => ?_⟩
   . simp only[gt_iff_lt,decide_eq_true_eq]at hp
     have hb:=H0r (x:=y) (by omega)
     have e1:Int.fdiv (y:Int) (2^(min (Int.toNat 1) (IntKind.u32.bits)))=((y / 2:Nat):Int):=by
      have e2:(2:Int)^(min (Int.toNat 1) (IntKind.u32.bits))=2:=by decide
      rw[e2,Int.fdiv_eq_ediv_of_nonneg _ (by omega)]; omega
     simp only[]
     rw[e1,i64w (by omega) (by omega)]
     exact⟨⟨k+1,y / 2,rfl,by omega,by omega⟩,by show((y / 2:Nat):Int).toNat<(y:Int).toNat; omega⟩
   . simp only[gt_iff_lt,decide_eq_false_iff_not]at hp
     have hy:y=0:=by omega
     subst hy
     rw[N0c]at hk
     simp only[]
     rw[i64w (n:=32*_) (by omega) (by omega),i64w (by omega) (by omega)]
     congr 1
     omega
theorem M09{V:View}{s:Sl}{a n:Nat}(hs:X00 V s a)(ha:wn a<=2^44)(hn:n<=2^44) :
 a00 Tryz.prog j0h #[s.v,.int .i64 (n:Int)] V λv V'=>∃r:Sl,v=r.v/\X00 V' r (a*2^n):=by
 have hsl:=hs.len
 have hs0:s.len=0->a=0:=λh=>t04.1 (by simp only[wn]; omega)
 simp only[wn]at ha
 obtain⟨W,hW⟩:∃W,W=n / 32:=⟨_,rfl⟩
 obtain⟨R,hR⟩:∃R,R=2^(n%32):=⟨_,rfl⟩
 have hR1:R<=2147483648:=by rw[hR]; exact Nat.pow_le_pow_right (by omega) (show n%32<=31 by omega)
 obtain⟨Q,hQ⟩:∃Q,R*Q=4294967296:=⟨2^(32-n%32),by rw[hR,<-Nat.pow_add,show n%32+(32-n%32)=32 by omega]⟩
 refine P0f s n V _
  (λ_ x _=>∃(i:Nat) (l:List Nat),x=K01.mk (i:Nat) (wv l)/\i<=s.len/\WB l/\l.length=s.len+W+1/\seg l 0 (i+W+1)=wval ((dig a).take i)*R*4294967296^W/\l.getD (i+W) 0<R)
  (λ_ x _=>(s.len-x.t6).toNat)
  ⟨λh=>⟨_,rfl,by have h:(s.len:Int)=0:=(by simpa using h); have:=hs0 (by omega); subst this; rw[Nat.zero_mul]; exact X00.zero V⟩,λ_ => ?_⟩
 rw[td32,tm32,<-hW,i64w (n:=(W:Int)) (by omega) (by omega),i64w (n:=(s.len:Int)+W) (by omega) (by omega),i64w (n:=(s.len:Int)+W+1) (by omega) (by omega),
  u64w (n:=((n%32:Nat):Int)) (by omega) (by omega),Int.toNat_natCast,s0q (show n%32<=64 by omega),<-hR]
 have hN:Int.toNat ((s.len:Int)+W+1)=s.len+W+1:=by omega
 rw[hN]
 refine⟨⟨by omega,by omega,by omega,by omega⟩,⟨0,List.replicate (s.len+W+1) 0,?_,by omega,WB.zeros _,by simp,?_,?_⟩,?_⟩
 . rw[I04]; rfl
 . rw[P0k]; simp[wval]
 . have:(List.replicate (s.len+W+1) 0).getD (0+W) 0=0:=by simp only[List.getD,List.getElem?_replicate]; split<;>rfl
   rw[this,hR]; exact Nat.two_pow_pos _
 rintro _ V2 hle2 ⟨i,l,rfl,hi,hwb,hl,hval,hlt⟩
 refine⟨λhp => ?_,λhp b1 V4 hle4 hb1 => ?_⟩
 . simp only[decide_eq_true_eq]at hp
   have hai:=(s04 a).getD i
   have hW2:=hwb.getD (i+W)
   simp only[Int.toNat_natCast]
   rw[i64w (n:=(i:Int)+W) (by omega) (by omega),i64w (n:=(i:Int)+W+1) (by omega) (by omega),i64w (n:=(i:Int)+1) (by omega) (by omega)]
   have e1:Int.toNat ((i:Int)+W)=i+W:=by omega
   have e2:Int.toNat ((i:Int)+W+1)=i+W+1:=by omega
   rw[e1,e2,show 0+(i+W)*1=i+W by omega,show 0+(i+W+1)*1=i+W+1 by omega]
   refine⟨⟨by omega,hp,hs.isSome (by omega)⟩,_,(hs.le hle2).get (i:=(i:Nat)) (by omega) hp,by omega,⟨by omega,by omega⟩,((l.getD (i+W) 0:Nat):Int),X06 (by omega),⟨by omega,by omega⟩,by rw[Y00]; omega,⟨by omega,by omega⟩,by simp only[List.length_set,Y00]; omega,?_⟩
   simp only[Int.toNat_natCast]
   generalize hA:(dig a).getD i 0=A at *
   have hm:A*R<=4294967295*2147483648:=Nat.mul_le_mul (by omega) hR1
   rw[u64w (n:=(A:Int)) (by omega) (by omega),<-Int.natCast_mul,u64w (n:=((A*R:Nat):Int)) (by omega) (by omega)]
   have e3:(2:Int)^(min (Int.toNat 32) (IntKind.u64.bits))=4294967296:=by decide
   rw[e3,Int.fdiv_eq_ediv_of_nonneg _ (by omega)]
   have e4:IntKind.u32.wrap (((A*R:Nat):Int) / 4294967296)=((A*R / 4294967296:Nat):Int):=by rw[u32w (by omega) (by omega)]; omega
   have e5:IntKind.u32.wrap ((A*R:Nat):Int)=((A*R%4294967296:Nat):Int):=by rw[u32m]; omega
   have e6:A*R%4294967296=(A%Q)*R:=by
    rw[<-hQ,Nat.mul_comm A R,Nat.mul_mod_mul_left,Nat.mul_comm]
   have hhi:A*R / 4294967296<R:=by
    rw[Nat.div_lt_iff_lt_mul (by omega),Nat.mul_comm]
    exact Nat.mul_lt_mul_of_pos_left (by omega) (by rw[hR]; exact Nat.two_pow_pos _)
   have hlo:l.getD (i+W) 0+A*R%4294967296<4294967296:=by
    rw[e6]
    have h0:0<Q:=by
     rcases Nat.eq_zero_or_pos Q with h|h
     . subst h; simp at hQ
     . exact h
    have h1:A%Q+1<=Q:=Nat.mod_lt _ h0
    have h2:=Nat.mul_le_mul_right R h1
    rw[Nat.succ_mul,Nat.mul_comm Q R,hQ]at h2
    omega
   rw[e4,e5,k0s hW2 (Nat.mod_lt _ (by omega)),e6]
   have hor:(l.getD (i+W) 0 ||| A%Q*R)=l.getD (i+W) 0+A%Q*R:=by
    rw[hR]at hlt ⊢; exact S0q hlt
   rw[hor,<-e6,u32w (by omega) (by omega),M04,M04]
   refine⟨⟨i+1,(l.set (i+W) (l.getD (i+W) 0+A*R%4294967296)).set (i+W+1) (A*R / 4294967296),rfl,by omega,(hwb.set (by omega)).set (by omega),by simpa using hl,?_,?_⟩,by show((s.len:Int)-((i:Int)+1)).toNat<((s.len:Int)-i).toNat; omega⟩
   . rw[show i+1+W+1=(i+W+1)+1 by omega,i02 (by omega) (by simp; omega)]
     have h1:=O0k (l:=l) (p:=i+W) (d:=l.getD (i+W) 0+A*R%4294967296) (j:=0) (k:=i+W+1) (by omega) (by omega) (by omega)
     rw[Nat.sub_zero,hval]at h1
     rw[w01,hA,Nat.pow_succ]
     have h2:A*R%4294967296+A*R / 4294967296*4294967296=A*R:=by omega
     have h3:=congrArg (·*4294967296^(i+W)) h2
     simp only[Nat.add_mul]at h1 h3 ⊢
     have h4:A*4294967296^i*R*4294967296^W=A*R*4294967296^(i+W):=by rw[Nat.pow_add]; grind
     have h5:∀q,q*(4294967296^(i+W)*4294967296)=q*4294967296*4294967296^(i+W):=by intro q; grind
     rw[h4,h5]
     omega
   . rw[X04,if_pos ⟨by omega,by simp; omega⟩]; exact hhi
 . simp only[decide_eq_false_iff_not]at hp
   have hi':i=s.len:=by omega
   subst hi'
   rw[i06 (by omega),e02 (l:=dig a) (by omega),F01]at hval
   have hw:H01 V4 (Sl.mk (some (Addr.mk b1 0 none)) (s.len+W+1) (s.len+W+1)) l:=H01.of_block hb1 (by omega) (Nat.le_refl _) hwb
   refine(O04 hw (by omega)).mono λv V6 _ ⟨r,hv,hr⟩=>⟨r,hv,r,rfl,?_⟩
   rw[hval,Nat.mul_assoc,hR,hW,<-t0c]at hr; exact hr
theorem O0d{V:View}{s:Sl}{a n:Nat}(hs:X00 V s a)(ha:wn a<=2^44)(hn:n<=2^44) :
 a00 Tryz.prog f0h #[s.v,.int .i64 (n:Int)] V λv V'=>∃r:Sl,v=r.v/\X00 V' r (a / 2^n):=by
 have hsl:=hs.len
 have hwn:wn a=s.len:=by simp only[wn]; exact hsl.symm
 have haw:=y0b a
 rw[hwn]at ha haw
 obtain⟨W,hW⟩:∃W,W=n / 32:=⟨_,rfl⟩
 obtain⟨R,hR⟩:∃R,R=2^(n%32):=⟨_,rfl⟩
 have hR0:0<R:=by rw[hR]; exact Nat.two_pow_pos _
 obtain⟨Q,hQ⟩:∃Q,R*Q=4294967296:=⟨2^(32-n%32),by rw[hR,<-Nat.pow_add,show n%32+(32-n%32)=32 by omega]⟩
 have hpow:2^n=4294967296^W*R:=by rw[hR,hW,Nat.mul_comm,<-t0c]
 refine Q0f s n V _
  (λ_ x _=>∃(i:Nat) (l:List Nat),x=l01.mk (i:Nat) (wv l)/\i<=s.len-W/\WB l/\l.length=s.len-W/\seg l 0 i=a / 2^n%4294967296^i)
  (λ_ x _=>(s.len-x.t6).toNat) ?_
 rw[td32,tm32,<-hW,i64w (n:=(W:Int)) (by omega) (by omega)]
 refine⟨λh=>⟨_,rfl,?_⟩,λh => ?_⟩
 . simp only[ge_iff_le,decide_eq_true_eq]at h
   have:a / 2^n=0:=by
    refine Nat.div_eq_of_lt (Nat.lt_of_lt_of_le haw ?_)
    rw[hpow]
    have h1:4294967296^s.len<=4294967296^W:=Nat.pow_le_pow_right (by omega) (by omega)
    have:=Nat.mul_le_mul_left (4294967296^W) hR0
    omega
   rw[this]; exact X00.zero V
 simp only[ge_iff_le,decide_eq_false_iff_not]at h
 rw[i64w (n:=(s.len:Int)-W) (by omega) (by omega),u64w (n:=((n%32:Nat):Int)) (by omega) (by omega),Int.toNat_natCast,s0q (show n%32<=64 by omega),<-hR]
 have hN:Int.toNat ((s.len:Int)-W)=s.len-W:=by omega
 rw[hN]
 refine⟨⟨by omega,by omega,by omega,by omega⟩,⟨0,List.replicate (s.len-W) 0,?_,by omega,WB.zeros _,by simp,?_⟩,?_⟩
 . rw[I04]; rfl
 . simp[o04,Nat.mod_one]
 rintro _ V2 hle2 ⟨i,l,rfl,hi,hwb,hl,hval⟩
 refine⟨λhp => ?_,λhp b1 V4 hle4 hb1 => ?_⟩
 . simp only[decide_eq_true_eq]at hp
   simp only[Int.toNat_natCast]
   rw[i64w (n:=(i:Int)+W) (by omega) (by omega),i64w (n:=(i:Int)+W+1) (by omega) (by omega),i64w (n:=(i:Int)+1) (by omega) (by omega)]
   have w1:=(s04 a).getD (W+i)
   have w2:=(s04 a).getD (W+i+1)
   have e1:Int.toNat ((i:Int)+W)=W+i:=by omega
   have e2:Int.toNat ((i:Int)+W+1)=W+i+1:=by omega
   have e3:(2:Int)^(min (Int.toNat 32) (IntKind.u64.bits))=4294967296:=by decide
   have word:=T0l (a:=a) (W:=W) (i:=i) hQ hR0
   rw[<-hpow]at word
   have step:∀z:Nat,z=(dig a).getD (W+i) 0+4294967296*(dig a).getD (W+i+1) 0 ->
    (∃(i':Nat) (l':List Nat),l01.mk ((i:Int)+1) ((wv l).set (0+i*1) (.int .u32 (IntKind.u32.wrap (Int.fdiv (z:Int) (R:Nat)))))=l01.mk (i':Nat) (wv l')/\i'<=s.len-W/\WB l'/\l'.length=s.len-W/\seg l' 0 i'=a / 2^n%4294967296^i'):=by
    intro z hz
    have ez:IntKind.u32.wrap (Int.fdiv (z:Int) (R:Nat))=((a / 2^n / 4294967296^i%4294967296:Nat):Int):=by
     rw[Int.fdiv_eq_ediv_of_nonneg _ (by omega),u32m,<-word,<-hz]; rfl
    rw[ez,show 0+i*1=i by omega,M04]
    refine⟨i+1,_,rfl,by omega,hwb.set (Nat.mod_lt _ (by omega)),by simpa using hl,?_⟩
    rw[i02 (by omega) (by omega),hval,Nat.pow_succ,Nat.mod_mul,Nat.mul_comm (4294967296^i)]
   have hme:((s.len:Int)-((i:Int)+1)).toNat<((s.len:Int)-i).toNat:=by omega
   have g1:=(hs.le hle2).get (i:=(i:Int)+W) (by omega) (by omega)
   rw[e1]at g1 ⊢
   refine⟨⟨by omega,by omega,hs.isSome (by omega)⟩,_,g1,λhq => ?_,λhq => ?_⟩
   . simp only[decide_eq_true_eq]at hq
     have g2:=(hs.le hle2).get (i:=(i:Int)+W+1) (by omega) (by omega)
     rw[e2]at g2 ⊢
     refine⟨⟨by omega,by omega,hs.isSome (by omega)⟩,_,g2,by omega,⟨by omega,by omega⟩,by rw[Y00]; omega,?_⟩
     rw[e3,u64w (n:=(((dig a).getD (W+i) 0:Nat):Int)) (by omega) (by omega),u64w (n:=(((dig a).getD (W+i+1) 0:Nat):Int)) (by omega) (by omega),u64w (n:=(((dig a).getD (W+i+1) 0:Nat):Int)*4294967296) (by omega) (by omega),
      show(((dig a).getD (W+i+1) 0:Nat):Int)*4294967296=(((dig a).getD (W+i+1) 0*4294967296:Nat):Int)by omega,j0s w1 w2,u64w (by omega) (by omega)]
     exact⟨step _ (by omega),hme⟩
   . simp only[decide_eq_false_iff_not]at hq
     refine⟨by omega,⟨by omega,by omega⟩,by rw[Y00]; omega,?_⟩
     rw[u64w (n:=(((dig a).getD (W+i) 0:Nat):Int)) (by omega) (by omega)]
     have h0:(dig a).getD (W+i+1) 0=0:=by simp only[List.getD]; rw[List.getElem?_eq_none (by omega)]; rfl
     exact⟨step _ (by omega),hme⟩
 . simp only[decide_eq_false_iff_not]at hp
   have hi':i=s.len-W:=by omega
   subst hi'
   have hw:H01 V4 (Sl.mk (some (Addr.mk b1 0 none)) (s.len-W) (s.len-W)) l:=H01.of_block hb1 (by omega) (Nat.le_refl _) hwb
   refine(O04 hw (by omega)).mono λv V6 _ ⟨r,hv,hr⟩=>⟨r,hv,r,rfl,?_⟩
   rw[i06 (by omega)]at hval
   have hlt:a / 2^n<4294967296^(s.len-W):=by
    rw[hpow,<-Nat.div_div_eq_div_mul]
    refine Nat.lt_of_le_of_lt (Nat.div_le_self _ _) ?_
    rw[Nat.div_lt_iff_lt_mul (Nat.pow_pos (by omega)),<-Nat.pow_add,show s.len-W+W=s.len by omega]
    exact haw
   rw[hval,Nat.mod_eq_of_lt hlt]at hr; exact hr
theorem Q0s(P:Nat)(h:P<18446744073709551616):BitVec.toNat ((BitVec.ofInt IntKind.u64.bits (P:Int)) &&& (BitVec.ofInt IntKind.u64.bits 4294967295))=P%4294967296:=by
 rw[BitVec.toNat_and]
 have e1:(BitVec.ofInt IntKind.u64.bits (P:Int)).toNat=P:=of64 h
 have e2:(BitVec.ofInt IntKind.u64.bits 4294967295).toNat=2^32-1:=by decide
 rw[e1,e2,Nat.and_two_pow_sub_one_eq_mod]
structure L0j (X vN n m j g i cr bo:Nat) (u qd u0:List Nat):Prop where
 div:DivI X vN n m (j+1) u0 qd
 n2:2<=n
 nm:n<=m
 wn:wn vN=n
 g32:g<4294967296
 ge:seg u0 j (n+1) / vN<=g
 gl:(g-1)*vN<=seg u0 j (n+1)
 i_le:i<=n
 wu:WB u
 lu:u.length=m
 cr32:cr<4294967296
 bo1:bo<=1
 out:∀p,p<j\/j+i<=p->u.getD p 0=u0.getD p 0
 val:seg u j i+g*wval ((dig vN).take i)=seg u0 j i+(cr+bo)*4294967296^i
structure W0h (X vN n m j g k cr:Nat) (u qd u0 l':List Nat):Prop where
 div:DivI X vN n m (j+1) u0 qd
 n2:2<=n
 nm:n<=m
 wn:wn vN=n
 wl:WB l'
 ll:l'.length=m
 out:∀i,i<j\/j+n<i->l'.getD i 0=u0.getD i 0
 eq:seg l' j (n+1)+g*vN=seg u0 j (n+1)+4294967296^(n+1)
 g32:g<4294967296
 ge:seg u0 j (n+1) / vN<=g
 gl:(g-1)*vN<=seg u0 j (n+1)
 k_le:k<=n
 cr1:cr<=1
 wu:WB u
 lu:u.length=m
 out2:∀i,i<j\/j+k<=i->u.getD i 0=l'.getD i 0
 val:seg u j k+cr*4294967296^k=seg l' j k+seg (dig vN) 0 k
theorem L0j.jn{X vN n m j g i cr bo:Nat}{u qd u0:List Nat}(h:L0j X vN n m j g i cr bo u qd u0):j+n<m:=by
 have:=h.div.jl
 have:=h.nm
 omega
theorem W0h.jn{X vN n m j g i cr:Nat}{u qd u0 l':List Nat}(h:W0h X vN n m j g i cr u qd u0 l'):j+n<m:=by
 have:=h.div.jl
 have:=h.nm
 omega
theorem Y0q{vN n:Nat}(h:wn vN=n)(hn:2<=n):0<vN:=by
 rcases Nat.eq_zero_or_pos vN with h0|h0
 . subst h0; rw[A08]at h; omega
 . exact h0
theorem L0j.step{X vN n m j g i cr bo:Nat}{u qd u0:List Nat}(h:L0j X vN n m j g i cr bo u qd u0)(hi:i<n) :
 ∃low br c:Nat,IntKind.u32.wrap (IntKind.u64.wrap ((IntKind.u64.wrap ((IntKind.u64.wrap ((u.getD (j+i) 0:Nat):Int))-(IntKind.u64.wrap ((BitVec.toNat ((BitVec.ofInt IntKind.u64.bits (IntKind.u64.wrap ((IntKind.u64.wrap ((g:Int)*(IntKind.u64.wrap (((dig vN).getD i 0:Nat):Int))))+(cr:Int)))) &&& (BitVec.ofInt IntKind.u64.bits 4294967295)):Nat):Int))))-(bo:Int)))=(low:Int) /\
  Int.fdiv (IntKind.u64.wrap ((IntKind.u64.wrap ((IntKind.u64.wrap ((u.getD (j+i) 0:Nat):Int))-(IntKind.u64.wrap ((BitVec.toNat ((BitVec.ofInt IntKind.u64.bits (IntKind.u64.wrap ((IntKind.u64.wrap ((g:Int)*(IntKind.u64.wrap (((dig vN).getD i 0:Nat):Int))))+(cr:Int)))) &&& (BitVec.ofInt IntKind.u64.bits 4294967295)):Nat):Int))))-(bo:Int))) 9223372036854775808=(br:Int) /\
  Int.fdiv (IntKind.u64.wrap ((IntKind.u64.wrap ((g:Int)*(IntKind.u64.wrap (((dig vN).getD i 0:Nat):Int))))+(cr:Int))) 4294967296=(c:Int) /\
  L0j X vN n m j g (i+1) c br (u.set (j+i) low) qd u0:=by
 have hjn:=h.jn
 have hvi:=(s04 vN).getD i
 have hui:=h.wu.getD (j+i)
 have hlu:=h.lu
 have hc:=h.cr32
 have hm':=s0c h.g32 hvi
 have hu0:u0.getD (j+i) 0=u.getD (j+i) 0:=(h.out (j+i) (by omega)).symm
 generalize hA:(dig vN).getD i 0=A at *
 generalize hU:u.getD (j+i) 0=U at *
 obtain⟨P,hP⟩:∃P,P=g*A+cr:=⟨_,rfl⟩
 rw[u64w (n:=(A:Int)) (by omega) (by omega),<-Int.natCast_mul,u64w (n:=((g*A:Nat):Int)) (by omega) (by omega),u64w (n:=((g*A:Nat):Int)+cr) (by omega) (by omega),
  show((g*A:Nat):Int)+cr=(P:Nat)by omega,Q0s P (by omega),u64w (n:=((P%4294967296:Nat):Int)) (by omega) (by omega),u64w (n:=(U:Int)) (by omega) (by omega),Int.fdiv_eq_ediv_of_nonneg (P:Int) (by omega),
  show(P:Int) / 4294967296=((P / 4294967296:Nat):Int)by omega]
 obtain⟨low,br,h1,h2,h3,h4,h5⟩:=A09 hui (Nat.mod_lt P (by omega:0<4294967296)) h.bo1
 refine⟨low,br,_,h4,h5,rfl,h.div,h.n2,h.nm,h.wn,h.g32,h.ge,h.gl,hi,h.wu.set h1,by simpa using hlu,by omega,h2,?_,?_⟩
 . intro p hp
   rw[X04,if_neg (by omega)]; exact h.out p (by omega)
 . have hval:=h.val
   rw[i02 rfl (by omega),X01,w01,hA,hu0,Nat.pow_succ]
   have h6:low+g*A+cr+bo=U+(P / 4294967296+br)*4294967296:=by
    have:=Nat.div_add_mod P 4294967296
    omega
   have h7:=congrArg (·*4294967296^i) h6
   simp only[Nat.add_mul]at h7 hval ⊢
   have h8:g*(wval (List.take i (dig vN))+A*4294967296^i)=g*wval (List.take i (dig vN))+g*A*4294967296^i:=by rw[Nat.mul_add,Nat.mul_assoc]
   have h9:∀z,z*(4294967296^i*4294967296)=z*4294967296*4294967296^i:=by intro z; grind
   rw[h8,h9,h9]
   omega
theorem L0j.last{X vN n m j g cr bo:Nat}{u qd u0:List Nat}(h:L0j X vN n m j g n cr bo u qd u0) :
 ∃low br:Nat,IntKind.u32.wrap (IntKind.u64.wrap ((IntKind.u64.wrap ((IntKind.u64.wrap ((u.getD (j+n) 0:Nat):Int))-(cr:Int)))-(bo:Int)))=(low:Int) /\
  Int.fdiv (IntKind.u64.wrap ((IntKind.u64.wrap ((IntKind.u64.wrap ((u.getD (j+n) 0:Nat):Int))-(cr:Int)))-(bo:Int))) 9223372036854775808=(br:Int)/\(u.set (j+n) low).length=m /\
  (br=1->W0h X vN n m j g 0 0 (u.set (j+n) low) qd u0 (u.set (j+n) low)/\0<g)/\(br≠1->DivI X vN n m j (u.set (j+n) low) (qd.set j g)):=by
 have hjn:=h.jn
 have hui:=h.wu.getD (j+n)
 have hlu:=h.lu
 have hu0:u0.getD (j+n) 0=u.getD (j+n) 0:=(h.out (j+n) (by omega)).symm
 generalize hU:u.getD (j+n) 0=U at *
 obtain⟨low,br,h1,h2,h3,h4,h5⟩:=A09 hui h.cr32 h.bo1
 rw[u64w (n:=(U:Int)) (by omega) (by omega)]
 refine⟨low,br,h4,h5,?_⟩
 obtain⟨l',hl'⟩:∃l',l'=u.set (j+n) low:=⟨_,rfl⟩
 rw[<-hl']
 have hwl':WB l':=by rw[hl']; exact h.wu.set h1
 have hll':l'.length=m:=by rw[hl']; simpa using hlu
 have hout:∀p,p<j\/j+n<p->l'.getD p 0=u0.getD p 0:=by
  intro p hp
  rw[hl',X04,if_neg (by omega)]; exact h.out p (by omega)
 have hwv:=h.wn
 have hvpos:=Y0q hwv h.n2
 have heq:seg l' j (n+1)+g*vN=seg u0 j (n+1)+br*4294967296^(n+1):=by
  have hval:=h.val
  rw[e02 (l:=dig vN) (Nat.le_of_eq hwv),F01]at hval
  rw[hl',i02 rfl (by omega),X01,hu0,Nat.pow_succ]
  have h7:=congrArg (·*4294967296^n) h3
  simp only[Nat.add_mul]at h7 hval
  have h9:br*(4294967296^n*4294967296)=br*4294967296*4294967296^n:=by grind
  rw[h9]
  omega
 have hlt1:=K09 hwl' j (n+1)
 refine⟨hll',λhb => ?_,λhb => ?_⟩
 . rw[hb,Nat.one_mul]at heq
   refine⟨⟨h.div,h.n2,h.nm,hwv,hwl',hll',hout,heq,h.g32,h.ge,h.gl,by omega,by omega,hwl',hll',λ_ _=>rfl,by simp[o04]⟩,?_⟩
   rcases Nat.eq_zero_or_pos g with h0|h0
   . exfalso; subst h0; omega
   . exact h0
 . have hb0:br=0:=by omega
   rw[hb0,Nat.zero_mul,Nat.add_zero]at heq
   have G9:=G0h h.div.wu h.n2 hwv h.div.lt
   have hcase:=z0f G9 h.ge h.gl
   have hvlt:vN<4294967296^n:=by rw[<-hwv]; exact y0b vN
   obtain⟨W9,hW9⟩:∃W9,W9=seg u0 j (n+1):=⟨_,rfl⟩
   rw[<-hW9]at hcase heq
   have hWm:W9%vN<vN:=Nat.mod_lt _ hvpos
   have hWd:=Nat.div_add_mod W9 vN
   have hgq:g=W9 / vN:=by
    rcases hcase with h|h
    . exact h
    . exfalso; rw[h,Nat.succ_mul,Nat.mul_comm]at heq; omega
   have hgm:g*vN=vN*(W9 / vN):=by rw[hgq,Nat.mul_comm]
   have hR:seg l' j (n+1)=W9%vN:=by omega
   refine h.div.next h.nm (R:=W9%vN) (by rw[<-hW9]; omega) hWm h.g32 hwl' hll' ?_ (Q0h hR (by omega))
   exact P0h λi _ hi=>hout i (by omega)
theorem W0h.step{X vN n m j g k cr:Nat}{u qd u0 l':List Nat}(h:W0h X vN n m j g k cr u qd u0 l')(hk:k<n) :
 ∃low c:Nat,IntKind.u32.wrap (IntKind.u64.wrap ((IntKind.u64.wrap ((IntKind.u64.wrap ((u.getD (j+k) 0:Nat):Int))+(IntKind.u64.wrap (((dig vN).getD k 0:Nat):Int))))+(cr:Int)))=(low:Int) /\
  Int.fdiv (IntKind.u64.wrap ((IntKind.u64.wrap ((IntKind.u64.wrap ((u.getD (j+k) 0:Nat):Int))+(IntKind.u64.wrap (((dig vN).getD k 0:Nat):Int))))+(cr:Int))) 4294967296=(c:Int) /\
  W0h X vN n m j g (k+1) c (u.set (j+k) low) qd u0 l':=by
 have hjn:=h.jn
 have hA:=(s04 vN).getD k
 have hU:=h.wu.getD (j+k)
 have hlu:=h.lu
 have hcr:=h.cr1
 have hL:l'.getD (j+k) 0=u.getD (j+k) 0:=(h.out2 (j+k) (by omega)).symm
 generalize hA':(dig vN).getD k 0=A at *
 generalize hU':u.getD (j+k) 0=U at *
 rw[u64w (n:=(U:Int)) (by omega) (by omega),u64w (n:=(A:Int)) (by omega) (by omega),u64w (n:=(U:Int)+A) (by omega) (by omega),u64w (n:=(U:Int)+A+cr) (by omega) (by omega),Int.fdiv_eq_ediv_of_nonneg _ (by omega)]
 have K2:IntKind.u32.wrap ((U:Int)+A+cr)=(((cr+U+A)%4294967296:Nat):Int):=by rw[u32m]; omega
 have K3:((U:Int)+A+cr) / 4294967296=(((cr+U+A) / 4294967296:Nat):Int):=by omega
 refine⟨_,_,K2,K3,h.div,h.n2,h.nm,h.wn,h.wl,h.ll,h.out,h.eq,h.g32,h.ge,h.gl,hk,by omega,h.wu.set (by omega),by simpa using hlu,?_,?_⟩
 . intro i hi; rw[X04,if_neg (by omega)]; exact h.out2 i (by omega)
 . have hseg:=h.val
   rw[i02 rfl (by omega),X01,X01,Nat.zero_add,hA',hL,Nat.pow_succ]
   have h6:(cr+U+A)%4294967296+(cr+U+A) / 4294967296*4294967296=cr+U+A:=by omega
   have h7:=congrArg (·*4294967296^k) h6
   simp only[Nat.add_mul]at h7 hseg ⊢
   have h9:∀z,z*(4294967296^k*4294967296)=z*4294967296*4294967296^k:=by intro z; grind
   rw[h9]
   omega
theorem W0h.last{X vN n m j g cr:Nat}{u qd u0 l':List Nat}(h:W0h X vN n m j g n cr u qd u0 l') :
 ∃low:Nat,IntKind.u32.wrap (((u.getD (j+n) 0:Nat):Int)+IntKind.u32.wrap (cr:Int))=(low:Int)/\DivI X vN n m j (u.set (j+n) low) (qd.set j (g-1)):=by
 have hjn:=h.jn
 have hT:=h.wu.getD (j+n)
 have hcr:=h.cr1
 have hlu:=h.lu
 have hL:l'.getD (j+n) 0=u.getD (j+n) 0:=(h.out2 (j+n) (by omega)).symm
 generalize hT':u.getD (j+n) 0=T at *
 have K1:IntKind.u32.wrap ((T:Int)+IntKind.u32.wrap (cr:Int))=(((T+cr)%4294967296:Nat):Int):=by rw[u32w (n:=(cr:Int)) (by omega) (by omega),u32m]; omega
 refine⟨_,K1,?_⟩
 have hwv:=h.wn
 have hvpos:=Y0q hwv h.n2
 have hvlt:vN<4294967296^n:=by rw[<-hwv]; exact y0b vN
 have hlt1:=K09 h.wl j (n+1)
 have heq:=h.eq
 have hge:=h.ge
 have hgl:=h.gl
 have hW3:∃R,seg u0 j (n+1)=R+(g-1)*vN/\R<vN/\seg l' j (n+1)+vN=R+4294967296^(n+1):=by
  obtain⟨W3,hW3⟩:∃W3,W3=seg u0 j (n+1):=⟨_,rfl⟩
  rw[<-hW3]at heq hge hgl ⊢
  have h2:W3 / vN<g:=by
   rw[Nat.div_lt_iff_lt_mul hvpos]; omega
  have h3:g-1=W3 / vN:=by
   have:=(Nat.le_div_iff_mul_le hvpos).2 hgl
   omega
  have h4:=Nat.div_add_mod' W3 vN
  have h5:W3%vN<vN:=Nat.mod_lt _ hvpos
  refine⟨W3%vN,by rw[h3]; omega,h5,?_⟩
  have h6:g*vN=(g-1)*vN+vN:=by
   obtain⟨q,rfl⟩:∃q,g=q+1:=⟨g-1,by omega⟩
   rw[Nat.succ_mul,Nat.add_sub_cancel]
  rw[h3]at h6
  omega
 obtain⟨R,hR1,hR2,hR3⟩:=hW3
 have hfin:seg (u.set (j+n) ((T+cr)%4294967296)) j (n+1)=R:=by
  rw[i02 rfl (by omega)]
  rw[X01,hL]at hR3
  have hseg:=h.val
  rw[Q0k vN (Nat.le_of_eq hwv)]at hseg
  exact W0l (K09 h.wu j n) (by omega) hT hcr hR3 hseg
 have hg1:g-1<4294967296:=by have:=h.g32; omega
 refine h.div.next h.nm hR1 hR2 hg1 (h.wu.set (by omega)) (by simpa using hlu) ?_ (Q0h hfin (by omega))
 rw[t06 (by omega)]
 exact P0h λi _ hi=>(h.out2 i (by omega)).trans (h.out i (by omega))
set_option maxHeartbeats 4000000 in
theorem I05{V:View}{s t:Sl}{a b:Nat}(hs:X00 V s a)(ht:X00 V t b)(ha:wn a<=2^43)(hb0:b≠0) :
 a00 Tryz.prog s07 #[s.v,t.v] V λv V'=>∃q r:Sl,v = .tuple #[q.v,r.v]/\X00 V' q (a / b)/\X00 V' r (a%b):=by
 have hsl:=hs.len
 have htl:=ht.len
 obtain⟨sh,hsh⟩:∃sh,sh=32-bl ((dig b).getD (wn b-1) 0):=⟨_,rfl⟩
 obtain⟨hsh1,hwv,hlo⟩:=U0l hb0 hsh
 obtain⟨X,hX⟩:∃X,X=a*2^sh:=⟨_,rfl⟩
 obtain⟨vN,hvN⟩:∃v,v=b*2^sh:=⟨_,rfl⟩
 rw[<-hvN]at hwv hlo
 obtain⟨m,hm⟩:∃m,m=s.len+1:=⟨_,rfl⟩
 obtain⟨n,hn⟩:∃n,n=t.len:=⟨_,rfl⟩
 have hna:wn a=s.len:=hsl.symm
 have hnb:wn b=n:=by rw[hn]; exact htl.symm
 have hal:=y0b a
 rw[hna]at ha hal
 rw[hnb]at hwv hlo
 have hcmp:=N0d hs ht (by omega)
 obtain⟨v1,hv1⟩:∃v1,v1=(dig vN).getD (n-1) 0:=⟨_,rfl⟩
 obtain⟨v2,hv2⟩:∃v2,v2=(dig vN).getD (n-2) 0:=⟨_,rfl⟩
 refine O0f s t V _
  (λc x V'=>∃(v:Sl) (j:Nat) (u qd:List Nat),c=t01.mk (sh:Nat) v (n:Nat) (m-n) (m-n)/\X00 V' v vN/\x=A01.mk ((j:Int)-1) (wv u) (wv qd)/\DivI X vN n m j u qd)
  (λ_ x _=>(x.t13+1).toNat)
  (λc x _=>∃(v:Sl) (j g:Nat) (u qd:List Nat),c=j01.mk (sh:Nat) v (n:Nat) (m-n) (m-n) (j:Nat) (wv u) (wv qd)/\x=B01.mk (g:Nat)/\g<4294967296/\seg u j (n+1) / vN<=g/\(g-1)*vN<=seg u j (n+1))
  (λc x _=>∃(v:Sl) (j g r:Nat) (u qd:List Nat),c=d01.mk (sh:Nat) v (n:Nat) (m-n) (m-n) (j:Nat) (wv u) (wv qd)/\x=k01.mk (g:Nat) (r:Nat)/\r<4294967296/\g*v1+r=u.getD (j+n) 0*4294967296+u.getD (j+n-1) 0 /\
    seg u j (n+1) / vN<=g)
  (λ_ x _=>x.t15.toNat)
  (λc x _=>∃(v:Sl) (j g i cr bo:Nat) (u qd u0:List Nat),c=C01.mk (sh:Nat) v (n:Nat) (m-n) (m-n) (j:Nat) (g:Nat)/\x=I01.mk (bo:Nat) (cr:Nat) (i:Nat) (wv u) (wv qd)/\L0j X vN n m j g i cr bo u qd u0)
  (λ_ x _=>(n-x.t19).toNat)
  (λc x _=>∃(v:Sl) (j g k cr:Nat) (u qd u0 l':List Nat),c=D01.mk (sh:Nat) v (n:Nat) (m-n) (m-n) (j:Nat) ((g-1:Nat):Int)/\x=J01.mk (cr:Nat) (k:Nat) (wv u) (wv qd)/\0<g/\W0h X vN n m j g k cr u qd u0 l')
  (λ_ x _=>(n-x.t23).toNat)
  (hcmp.mono λv V1 l1 hv=>⟨_,hv,λhlt => ?_,λhge=>⟨λh1 => ?_,λh2 => ?_⟩⟩)
 ·
   have hlt:a<b:=by
    rcases Nat.lt_or_ge a b with h|h
    . exact h
    . exfalso; revert hlt; rw[if_neg (by omega)]; split<;>simp
   exact⟨_,_,rfl,by rw[Nat.div_eq_of_lt hlt]; exact X00.zero V1,by rw[Nat.mod_eq_of_lt hlt]; exact hs.le l1⟩
 ·
   have h1:n=1:=by have:(t.len:Int)=1:=(by simpa using h1); omega
   have hb1:b<4294967296:=by have:=y0b b; rw[hnb,h1]at this; simpa using this
   have hd:(dig b).getD 0 0=b:=by rw[Y0d]; simp; omega
   have hg:=(ht.le l1).get (i:=0) (by omega) (by omega)
   simp only[Int.toNat_zero,hd]at hg
   refine⟨⟨by omega,by omega,ht.isSome (by omega)⟩,_,hg,?_⟩
   refine(B0c (hs.le l1) (by omega) (by omega) hb1).mono λv V2 l2 ⟨q,hv,hq⟩=>⟨q,_,hv,?_⟩
   have hmod:a%b<b:=Nat.mod_lt _ (by omega)
   rw[u64w (by omega) (by omega)]
   refine(W07 (by omega) (by omega)).mono λv V3 l3 ⟨r,hv,hr⟩=>⟨r,hv,q,r,rfl,hq.le l3,?_⟩
   rw[Int.toNat_natCast]at hr; exact hr
 have hab:b<=a:=by
  rcases Nat.lt_or_ge a b with h|h
  . exfalso; revert hge; rw[if_pos h]; simp
  . exact h
 have hnm:n<=s.len:=by rw[<-hna,<-hnb]; exact z09 hab
 have hn0:n≠0:=by rw[<-hnb]; intro e; exact hb0 (t04.1 e)
 have hn2:2<=n:=by have:¬(t.len:Int)=1:=(by simpa using h2); omega
 have E2:IntKind.i64.wrap ((s.len:Int)+1)=(m:Nat):=by rw[i64w (by omega) (by omega)]; omega
 have E3:IntKind.i64.wrap ((m:Int)-(n:Int))=((m-n:Nat):Int):=by rw[i64w (by omega) (by omega)]; omega
 have E1:IntKind.i64.wrap ((n:Int)-1)=((n-1:Nat):Int):=by rw[i64w (by omega) (by omega)]; omega
 have E4:IntKind.i64.wrap ((n:Int)-2)=((n-2:Nat):Int):=by rw[i64w (by omega) (by omega)]; omega
 have E5:IntKind.i64.wrap (((m-n:Nat):Int)-1)=((m-n:Nat):Int)-1:=by rw[i64w (by omega) (by omega)]
 have E6:(t.len:Int)=(n:Nat):=by omega
 have hblb:=t0s hb0
 have hbltop:bl ((dig b).getD (wn b-1) 0)<=32:=by
  have h3:=(F07 hb0).2.2
  have:=F0h h3
  have:=(s04 b).getD (wn b-1)
  have:=(Nat.pow_lt_pow_iff_right (a:=2) (n:=bl ((dig b).getD (wn b-1) 0)-1) (m:=32) (by omega)).1 (by omega)
  omega
 have Esh:IntKind.i64.wrap (IntKind.i64.wrap (32*(t.len:Int))-(bl b:Nat))=(sh:Nat):=by
  rw[i64w (n:=32*(t.len:Int)) (by omega) (by omega),i64w (by omega) (by omega)]; omega
 refine(X0c (ht.le l1) (by omega)).mono λv V4 l4 hv=>⟨_,hv,?_⟩
 simp only[Esh]
 refine(M09 (ht.le (View.le_trans l1 l4)) (by omega) (by omega)).mono λv V5 l5 ⟨w,hv,hw⟩=>⟨w,hv,?_⟩
 rw[<-hvN]at hw
 have hwl:w.len=n:=by have:=hw.len; simp only[wn]at hwv; omega
 simp only[E2,Int.toNat_natCast,hwl,E3,E1,E4,E5]
 refine⟨⟨by omega,by omega,by omega,by omega⟩,(M09 (hs.le (View.le_trans l1 (View.le_trans l4 l5))) (by omega) (by omega)).mono λv V6 l6 ⟨ua,hv,hua⟩=>⟨ua,hv,?_⟩⟩
 rw[<-hX]at hua
 have hXm:wn X<=m:=by
  refine m04 ?_
  rw[hX,hm,Nat.pow_succ]
  exact Nat.mul_lt_mul'' hal (Nat.lt_of_le_of_lt (Nat.pow_le_pow_right (by omega) hsh1) (by omega))
 have hual:=hua.len
 simp only[wn]at hXm
 refine⟨wv (dig X),H01.has hua,by rw[Y00]; omega,?_,?_,?_,⟨by omega,by omega,by omega,by omega⟩,?_⟩
 . by_cases h0:ua.len=0
   . left; have:(dig X).length=0:=by omega
     rw[List.eq_nil_of_length_eq_zero this]; rfl
   . right; exact hua.isSome (by omega)
 . intro v hv; simp only[wv,List.mem_map]at hv; obtain⟨d,_,rfl⟩:=hv; rfl
 . rw[I04,Y00,Y00]; simp; omega
 rw[I04,I04,M0o m (dig X) (by omega)]
 have hq0:seg (dig X++List.replicate (m-(dig X).length) 0) 0 m=X:=by
  rw[i06 (by simp; omega),E0l,F01]
 have h7:=A0j hal hm hX hsh1 (by omega) (by omega) hlo _ hq0
 refine⟨⟨w,m-n,_,_,rfl,hw.le l6,rfl,by omega,?_,by simp; omega,WB.zeros _,by simp,?_,h7⟩,?_⟩
 . intro d hd
   rcases List.mem_append.1 hd with hd|hd
   . exact s04 X d hd
   . rw[(List.mem_replicate.1 hd).2]; omega
 . rw[show m-n+n=m by omega,hq0,Nat.sub_self,o04]; simp
 rintro _ V7 hle7 ⟨w',j,u,qd,hc,hw7,rfl,hD⟩
 obtain rfl:w'=w:=by simp only[t01.mk.injEq]at hc; exact hc.2.1.symm
 have hjl:=hD.jl
 have hlu:=hD.lu
 have hlq:=hD.lq
 have hwu:=hD.wu
 simp only[Z0k]
 refine⟨λhp => ?_,λhp b1 V12 l12 hb1 b2 V13 l13 hb2 => ?_⟩
 . simp only[ge_iff_le,decide_eq_true_eq]at hp
   obtain⟨i,rfl⟩:∃i,j=i+1:=⟨j-1,by omega⟩
   have e0:(((i+1:Nat):Int)-1)=(i:Nat):=by omega
   simp only[e0]
   have F1:IntKind.i64.wrap ((i:Int)+(n:Int))=((i+n:Nat):Int):=by rw[i64w (by omega) (by omega)]; omega
   have F2:IntKind.i64.wrap (((i+n:Nat):Int)-1)=((i+n-1:Nat):Int):=by rw[i64w (by omega) (by omega)]; omega
   have F3:IntKind.i64.wrap (((i+n:Nat):Int)-2)=((i+n-2:Nat):Int):=by rw[i64w (by omega) (by omega)]; omega
   have F4:IntKind.i64.wrap ((i:Int)-1)=(i:Int)-1:=by rw[i64w (by omega) (by omega)]
   simp only[F1,F2,F3,F4,Int.toNat_natCast,Nat.zero_add,Nat.mul_one]
   have G:=G0h hwu hn2 hwv hD.lt
   rw[<-hv1,<-hv2]at G
   obtain⟨W,hW⟩:∃W,W=seg u i (n+1):=⟨_,rfl⟩
   obtain⟨u2,hu2⟩:∃x,x=u.getD (i+n) 0:=⟨_,rfl⟩
   obtain⟨u1,hu1⟩:∃x,x=u.getD (i+n-1) 0:=⟨_,rfl⟩
   obtain⟨u0,hu0⟩:∃x,x=u.getD (i+n-2) 0:=⟨_,rfl⟩
   rw[<-hW,<-hu2,<-hu1,<-hu0]at G
   have hu2l:u2<4294967296:=by rw[hu2]; exact hwu.getD _
   have hv1l:=G.h1
   have hv1p:=G.pos
   have hu1l:=G.k1
   have hv1b:2147483648<=v1:=by
    have hvn0:vN≠0:=by rintro rfl; rw[A08]at hwv; omega
    have h3:=(F07 hvn0).2.1
    rw[hwv,<-hv1]at h3
    have h4:2147483648*4294967296^(n-1)<(v1+1)*4294967296^(n-1):=by omega
    have:=Nat.lt_of_mul_lt_mul_right h4
    omega
   have gv1:=(hw7).get (i:=((n-1:Nat):Int)) (by omega) (by omega)
   rw[Int.toNat_natCast,<-hv1,Nat.mul_one]at gv1
   have gv2:=(hw7).get (i:=((n-2:Nat):Int)) (by omega) (by omega)
   rw[Int.toNat_natCast,<-hv2,Nat.mul_one]at gv2
   have hws:=hw7.isSome (by omega)
   have hor:BitVec.toNat ((BitVec.ofInt IntKind.u64.bits (IntKind.u64.wrap ((IntKind.u64.wrap (u2:Int))*4294967296))) ||| (BitVec.ofInt IntKind.u64.bits (IntKind.u64.wrap (u1:Int))))=u2*4294967296+u1:=by
    rw[u64w (n:=(u2:Int)) (by omega) (by omega),u64w (n:=(u1:Int)) (by omega) (by omega),u64w (by omega) (by omega),show(u2:Int)*4294967296=((u2*4294967296:Nat):Int)by omega]
    exact or64 hu1l hu2l
   refine⟨⟨by omega,by omega⟩,_,X06 (by omega),⟨by omega,by omega⟩,_,X06 (by omega),⟨by omega,by omega,hws⟩,_,gv1,?_,⟨by omega,by omega,hws⟩,_,gv1,?_,⟨?_,?_⟩,?_⟩
   . rw[u64w (by omega) (by omega)]; omega
   . rw[u64w (by omega) (by omega)]; omega
   ·
     rw[<-hu2,<-hu1,hor,u64w (n:=(v1:Int)) (by omega) (by omega),u64w (n:=((u2*4294967296+u1:Nat):Int)) (by omega) (by omega),<-Int.ofNat_tdiv,<-Int.ofNat_tmod]
     have h3:(u2*4294967296+u1) / v1<=u2*4294967296+u1:=Nat.div_le_self _ _
     have h4:(u2*4294967296+u1)%v1<v1:=Nat.mod_lt _ hv1p
     have h5:=Nat.div_add_mod' (u2*4294967296+u1) v1
     have h6:=G.init
     generalize (u2*4294967296+u1) / v1=g at *
     generalize (u2*4294967296+u1)%v1=r at *
     rw[u64w (n:=(g:Int)) (by omega) (by omega)]
     refine⟨w',i,g,r,u,qd,rfl,rfl,by omega,?_,?_⟩
     . rw[<-hu2,<-hu1]; exact h5
     . rw[<-hW]; exact h6
   ·
     rintro _ V9 l9 ⟨w2,i2,g,r,u',qd',hc2,rfl,hr,hgr,hge⟩
     simp only[d01.mk.injEq]at hc2
     obtain⟨_,rfl,_,_,_,hi2,hu',hq'⟩:=hc2
     obtain rfl:i2=i:=by omega
     obtain rfl:=y0d hu'
     obtain rfl:=y0d hq'
     rw[<-hu2,<-hu1]at hgr
     rw[<-hW]at hge
     have hgl:g<8589934592:=by
      rcases Nat.lt_or_ge g 8589934592 with h|h
      . exact h
      . exfalso
        have:=Nat.mul_le_mul h hv1b
        omega
     have gv1':=Q02 l9 gv1
     have gv2':=Q02 l9 gv2
     simp only
     have down:0<g->W / vN<=g-1->(4294967296<=r+v1->(g-1-1)*vN<=W/\g-1<4294967296) ->
      ((decide (((IntKind.u64.wrap ((r:Int)+(IntKind.u64.wrap (v1:Int)))):Int)>=4294967296))=true ->
        ∃(v:Sl) (j g':Nat) (u1 qd1:List Nat),j01.mk (sh:Nat) w' (n:Nat) (m-n) (m-n) (i2:Nat) (wv u) (wv qd)=j01.mk (sh:Nat) v (n:Nat) (m-n) (m-n) (j:Nat) (wv u1) (wv qd1)/\B01.mk (IntKind.u64.wrap ((g:Int)-1))=B01.mk (g':Nat)/\g'<4294967296/\seg u1 j (n+1) / vN<=g'/\(g'-1)*vN<=seg u1 j (n+1)) /\
      ((decide (((IntKind.u64.wrap ((r:Int)+(IntKind.u64.wrap (v1:Int)))):Int)>=4294967296))=false ->
        (∃(v:Sl) (j g' r':Nat) (u1 qd1:List Nat),d01.mk (sh:Nat) w' (n:Nat) (m-n) (m-n) (i2:Nat) (wv u) (wv qd)=d01.mk (sh:Nat) v (n:Nat) (m-n) (m-n) (j:Nat) (wv u1) (wv qd1) /\
          k01.mk (IntKind.u64.wrap ((g:Int)-1)) (IntKind.u64.wrap ((r:Int)+(IntKind.u64.wrap (v1:Int))))=k01.mk (g':Nat) (r':Nat)/\r'<4294967296/\g'*v1+r'=u1.getD (j+n) 0*4294967296+u1.getD (j+n-1) 0/\seg u1 j (n+1) / vN<=g') /\
        (IntKind.u64.wrap ((g:Int)-1)).toNat<(g:Int).toNat):=by
      intro h0 h1 h2
      rw[u64w (n:=(v1:Int)) (by omega) (by omega),u64w (n:=(r:Int)+v1) (by omega) (by omega),u64w (n:=(g:Int)-1) (by omega) (by omega)]
      have e1:(g:Int)-1=((g-1:Nat):Int):=by omega
      have e2:(r:Int)+v1=((r+v1:Nat):Int):=by omega
      rw[e1,e2]
      refine⟨λh => ?_,λh => ?_⟩
      . simp only[ge_iff_le,decide_eq_true_eq]at h
        obtain⟨h3,h4⟩:=h2 (by omega)
        exact⟨w',i2,g-1,u,qd,rfl,rfl,h4,by rw[<-hW]; exact h1,by rw[<-hW]; exact h3⟩
      . simp only[ge_iff_le,decide_eq_false_iff_not]at h
        refine⟨⟨w',i2,g-1,r+v1,u,qd,rfl,rfl,by omega,?_,by rw[<-hW]; exact h1⟩,by omega⟩
        rw[<-hu2,<-hu1,<-hgr]
        obtain⟨k,rfl⟩:∃k,g=k+1:=⟨g-1,by omega⟩
        rw[Nat.succ_mul,Nat.add_sub_cancel]; omega
     refine⟨λhp2=>⟨λ_ => ?_,λh=>by cases h⟩,λhp2 => ?_⟩
     . simp only[ge_iff_le,decide_eq_true_eq]at hp2
       have hq:=G.quo
       refine⟨⟨by omega,by omega,hws⟩,_,gv1',?_⟩
       exact down (by omega) (by omega) (λh=>(G.brk hgr (by omega) h).symm)
     . simp only[ge_iff_le,decide_eq_false_iff_not]at hp2
       have hg32:g<4294967296:=by omega
       have hv2l:=G.h2
       have hm1:=s0c hg32 hv2l
       have hu0l:=G.k0
       refine⟨⟨by omega,by omega,hws⟩,_,gv2',⟨by omega,by omega⟩,_,X06 (by omega),?_⟩
       rw[<-hu0]
       have hor2:BitVec.toNat ((BitVec.ofInt IntKind.u64.bits (IntKind.u64.wrap ((r:Int)*4294967296))) ||| (BitVec.ofInt IntKind.u64.bits (IntKind.u64.wrap (u0:Int))))=r*4294967296+u0:=by
        rw[u64w (n:=(u0:Int)) (by omega) (by omega),u64w (by omega) (by omega),show(r:Int)*4294967296=((r*4294967296:Nat):Int)by omega]
        exact or64 hu0l hr
       rw[hor2,u64w (n:=(v2:Int)) (by omega) (by omega),<-Int.natCast_mul,u64w (n:=((g*v2:Nat):Int)) (by omega) (by omega),u64w (n:=((r*4294967296+u0:Nat):Int)) (by omega) (by omega)]
       refine⟨λhp3 => ?_,λhp3 => ?_⟩
       . simp only[gt_iff_lt,decide_eq_true_eq]at hp3
         have hd:=G.dec hgr (by omega)
         refine⟨⟨by omega,by omega,hws⟩,_,gv1',?_⟩
         have hg0:0<g:=Nat.lt_of_le_of_lt (Nat.zero_le _) hd
         exact down hg0 (Nat.le_sub_one_of_lt hd) (λh=>(G.brk hgr hg0 h).symm)
       . simp only[gt_iff_lt,decide_eq_false_iff_not]at hp3
         exact⟨w',i2,g,u,qd,rfl,rfl,hg32,by rw[<-hW]; exact hge,by rw[<-hW]; exact G.exit hgr hg32 (by omega)⟩
   ·
     rintro _ V8 l8 ⟨w2,i2,g,u',qd',hc2,rfl,hg32,hge,hgl⟩
     simp only[j01.mk.injEq]at hc2
     obtain⟨_,rfl,_,_,_,hi2,hu',hq'⟩:=hc2
     obtain rfl:i2=i:=by omega
     obtain rfl:=y0d hu'
     obtain rfl:=y0d hq'
     refine⟨⟨w',i2,g,0,0,0,u,qd,u,rfl,rfl,hD,hn2,by omega,hwv,hg32,hge,hgl,by omega,hwu,hlu,by omega,by omega,λ_ _=>rfl,by simp[o04,wval]⟩,?_⟩
     clear G hge hgl gv1 gv2 hor hq0 h7 hXm hual hua hcmp hlo hX hvN hsh hblb hbltop Esh hv1 hv2 hu2 hu1 hu0 hW
     rintro _ V10 l10 ⟨w2,i9,g9,k,c0,b0,u9,qd9,u00,hc9,rfl,hT⟩
     simp only[C01.mk.injEq]at hc9
     obtain⟨_,rfl,_,_,_,hi9,hgg⟩:=hc9
     obtain rfl:i2=i9:=by omega
     obtain rfl:g=g9:=by omega
     have hjn:=hT.jn
     have hkn:=hT.i_le
     have hlu9:=hT.lu
     have hlq9:=hT.div.lq
     have hme:((i2:Int)-1+1).toNat<(((i2+1:Nat):Int)).toNat:=by omega
     simp only[i0p,Int.toNat_natCast]
     refine⟨λhp2 => ?_,λhp2 => ?_⟩
     . simp only[decide_eq_true_eq]at hp2
       have hkn:k<n:=by omega
       have K1:IntKind.i64.wrap ((k:Int)+i2)=((i2+k:Nat):Int):=by rw[i64w (by omega) (by omega)]; omega
       simp only[K1,Int.toNat_natCast]
       have gk:=(hw7.le (View.le_trans l8 l10)).get (i:=(k:Nat)) (by omega) (by omega)
       simp only[Int.toNat_natCast,Nat.mul_one]at gk
       refine⟨⟨by omega,by omega,hws⟩,_,gk,⟨by omega,by omega⟩,_,X06 (by omega),⟨by omega,by omega⟩,by rw[Y00]; omega,?_⟩
       obtain⟨low,br,c,e1,e2,e3,hT'⟩:=hT.step hkn
       rw[e1,e2,e3,M04,i64w (n:=(k:Int)+1) (by omega) (by omega)]
       exact⟨⟨w',i2,g,k+1,c,br,_,qd9,u00,rfl,rfl,hT'⟩,by omega⟩
     simp only[decide_eq_false_iff_not]at hp2
     obtain rfl:n=k:=by omega
     refine⟨⟨by omega,by omega⟩,_,X06 (by omega),⟨by omega,by omega⟩,by rw[Y00]; omega,?_⟩
     obtain⟨low,br,e1,e2,hl',hb1,hb0⟩:=hT.last
     rw[e1,e2,M04]
     refine⟨λhn1 => ?_,λhn1 => ?_⟩
     ·
       obtain⟨hB,hg0⟩:=hb1 (by have:(br:Int)=1:=(by simpa using hn1); omega)
       rw[u64w (n:=(g:Int)-1) (by omega) (by omega),show(g:Int)-1=((g-1:Nat):Int)by omega]
       refine⟨⟨w',i2,g,0,0,_,qd9,u00,_,rfl,rfl,hg0,hB⟩,?_⟩
       clear hT hB hb1 hb0 hl' e1 e2
       rintro _ V11 l11 ⟨w3,i3,g3,k3,cr,u3,qd3,u03,l3,hc3,rfl,hg3,hB⟩
       simp only[D01.mk.injEq]at hc3
       obtain⟨_,rfl,_,_,_,hi3,hg3'⟩:=hc3
       obtain rfl:i2=i3:=by omega
       obtain rfl:g=g3:=by omega
       have hjn:=hB.jn
       have hkn:=hB.k_le
       have hlu3:=hB.lu
       have hlq3:=hB.div.lq
       simp only[Int.toNat_natCast]
       refine⟨λhp4 => ?_,λhp4 => ?_⟩
       . simp only[decide_eq_true_eq]at hp4
         have hkn:k3<n:=by omega
         have K1:IntKind.i64.wrap ((k3:Int)+i2)=((i2+k3:Nat):Int):=by rw[i64w (by omega) (by omega)]; omega
         simp only[K1,Int.toNat_natCast]
         have gk:=(hw7.le (View.le_trans l8 (View.le_trans l10 l11))).get (i:=(k3:Nat)) (by omega) (by omega)
         simp only[Int.toNat_natCast,Nat.mul_one]at gk
         refine⟨⟨by omega,by omega⟩,_,X06 (by omega),⟨by omega,by omega,hws⟩,_,gk,⟨by omega,by omega⟩,by rw[Y00]; omega,?_⟩
         obtain⟨low,c,e1,e2,hB'⟩:=hB.step hkn
         rw[e1,e2,M04,i64w (n:=(k3:Int)+1) (by omega) (by omega)]
         exact⟨⟨w',i2,g,k3+1,c,_,qd3,u03,l3,rfl,rfl,hg3,hB'⟩,by omega⟩
       . simp only[decide_eq_false_iff_not]at hp4
         obtain rfl:n=k3:=by omega
         refine⟨⟨by omega,by omega⟩,_,X06 (by omega),⟨by omega,by omega⟩,by rw[Y00]; omega,⟨by omega,by omega⟩,by rw[Y00]; omega,?_⟩
         obtain⟨low,e1,hD'⟩:=hB.last
         rw[u32w (n:=((g-1:Nat):Int)) (by omega) (by omega),e1,M04,M04]
         exact⟨⟨w',i2,_,_,rfl,hw7.le (View.le_trans l8 (View.le_trans l10 l11)),rfl,hD'⟩,hme⟩
     ·
       have hD':=hb0 (λh=>by rw[h]at hn1; simp at hn1)
       rw[u32w (n:=(g:Int)) (by omega) (by omega),M04]
       exact⟨⟨by omega,by omega⟩,by rw[Y00]; omega,⟨w',i2,_,_,rfl,hw7.le (View.le_trans l8 l10),rfl,hD'⟩,hme⟩
 ·
   simp only[ge_iff_le,decide_eq_false_iff_not]at hp
   obtain rfl:j=0:=by omega
   have heq:=hD.eq
   have hlt0:=hD.lt
   rw[Nat.zero_add,Nat.pow_zero,Nat.one_mul,Nat.sub_zero]at heq
   obtain⟨hq1,hr1⟩:=X0l hX hvN hb0 heq hlt0
   have hwq:H01 V12 (Sl.mk (some (Addr.mk b1 0 none)) (m-n) (m-n)) qd:=H01.of_block hb1 (by omega) (Nat.le_refl _) hD.wq
   have hwr:H01 V13 (Sl.mk (some (Addr.mk b2 0 none)) m m) u:=H01.of_block hb2 (by omega) (Nat.le_refl _) hwu
   refine⟨⟨by omega,by omega,by omega⟩,(O04 (H01.le l13 hwq) (by omega)).mono λv V14 l14 ⟨q,hv,hq⟩=>⟨q,hv,?_⟩⟩
   have hwr2:H01 V14 (Sl.mk (some (Addr.mk b2 0 none)) n m) (u.take n):=H01.le l14 (H01.pre hwr (k:=n) (c:=m) (by omega) (by omega))
   have hl50:(u.take n).length<=2^50:=by rw[List.length_take]; omega
   have hz:Int.toNat 0=0:=rfl
   have hm0:¬m=0:=by omega
   have hadd:Option.map (λq=>Addr.add q 0) (some (Addr.mk b2 0 none))=some (Addr.mk b2 0 none):=by simp[Addr.add]
   simp only[hz,hm0,if_false,Nat.zero_mul,hadd,Nat.sub_zero]
   have htr:=O04 hwr2 hl50
   refine htr.mono λv V15 l15 ⟨r,hv,hr⟩=>⟨r,hv,?_⟩
   rw[<-D0h]at hr
   have hrw:wn (seg u 0 n)<=2^44:=by
    have:=m04 (K09 hwu 0 n)
    omega
   refine(O0d hr hrw (by omega)).mono λv V16 l16 ⟨r2,hv,hr2⟩=>⟨r2,hv,q,r2,rfl,?_,?_⟩
   . rw[<-hq1,i06 (by omega)]; exact hq.le (View.le_trans l15 l16)
   . rw[<-hr1]; exact hr2
theorem N09{V:View}{s t:Sl}{a b:Nat}(hs:X00 V s a)(ht:X00 V t b)(ha:wn a<=2^43)(hb:wn b<=2^43) :
 a00 Tryz.prog g0h #[s.v,t.v] V λv V'=>∃r:Sl,v=r.v/\X00 V' r (Nat.gcd a b):=by
 refine L0f s t V _ (λ_ x V'=>∃a' b',X00 V' x.t0 a'/\X00 V' x.t1 b'/\wn a'<=2^43/\wn b'<=2^43/\Nat.gcd a' b'=Nat.gcd a b) (λ_ x V'=>P0e V' x.t1) ⟨⟨a,b,hs,ht,ha,hb,rfl⟩,?_⟩
 rintro⟨x,y⟩ V1 l1 ⟨a',b',hx,hy,wa,wb,hg⟩
 simp only at hx hy ⊢
 have hyl:=hy.len
 refine⟨λhp => ?_,λhp => ?_⟩
 . simp only[gt_iff_lt,decide_eq_true_eq]at hp
   have hb0:b'≠0:=λe=>by rw[<-hy.len_zero]at e; omega
   refine(I05 hx hy wa hb0).mono λv V2 l2 ⟨q,r,hv,hq,hr⟩=>⟨q,r,hv,?_⟩
   have hlt:a'%b'<b':=Nat.mod_lt _ (by omega)
   have hwr:wn (a'%b')<=wn b':=z09 (Nat.le_of_lt hlt)
   refine⟨⟨b',a'%b',hy.le l2,hr,wb,by omega,?_⟩,?_⟩
   . rw[Nat.gcd_comm,<-Nat.gcd_rec,Nat.gcd_comm]; exact hg
   . rw[a09 hr,a09 hy]; exact hlt
 . simp only[gt_iff_lt,decide_eq_false_iff_not]at hp
   have hb0:b'=0:=hy.len_zero.1 (by omega)
   subst hb0
   rw[Nat.gcd_zero_right]at hg
   exact⟨x,rfl,by rw[<-hg]; exact hx⟩
theorem i07{V:View}{s:Sl}{n:Nat}(neg:Bool)(h:X00 V s n) :
 a00 Tryz.prog m09 #[.bool neg,s.v] V λv V'=>∃r:WhV,v=r.val/\B04 V' r (if neg=true then -(n:Int)else n):=by
 have hl:=h.len_zero
 refine M0f neg s V _ ⟨λhn=>⟨_,rfl,?_,?_⟩,λhn=>⟨_,rfl,?_,?_⟩⟩
 . rw[if_pos hn]; simp only[gt_iff_lt,decide_eq_decide]; omega
 . rw[if_pos hn]; simpa using h
 . rw[if_neg (by simp[hn])]; symm; simp only[decide_eq_false_iff_not]; omega
 . rw[if_neg (by simp[hn])]; simpa using h
theorem X07{V:View}{n:Int}(h0 : -9223372036854775808<=n)(h1:n<=9223372036854775807) :
 a00 Tryz.prog M0i #[.int .i64 n] V λv V'=>∃r:WhV,v=r.val/\B04 V' r n:=by
 refine w0h n V _ ⟨λhn => ?_,λhn => ?_⟩
 . simp only[decide_eq_true_eq]at hn
   have e:IntKind.u64.wrap (IntKind.i64.wrap (0-n)) = -n:=by
    by_cases hm:n = -9223372036854775808
    . subst hm; decide
    . rw[i64w (by omega) (by omega),u64w (by omega) (by omega)]; omega
   rw[e]
   refine(W07 (by omega) (by omega)).mono λv V1 _ ⟨r,hv,hr⟩=>⟨r,hv,_,rfl,by simp[hn],?_⟩
   have e2:n.natAbs=(-n).toNat:=by omega
   rw[e2]; exact hr
 . simp only[decide_eq_false_iff_not]at hn
   rw[u64w (by omega) (by omega)]
   refine(W07 (by omega) (by omega)).mono λv V1 _ ⟨r,hv,hr⟩=>⟨r,hv,_,rfl,by simp[hn],?_⟩
   have e2:n.natAbs=n.toNat:=by omega
   rw[e2]; exact hr
theorem O09{V:View}{x:WhV}{a:Int}(h:B04 V x a) :
 a00 Tryz.prog e0h #[x.val] V λv V'=>∃r:WhV,v=r.val/\B04 V' r (-a):=by
 refine N0f x V _ ((i07 (!x.neg) h.2).mono λv V1 _ ⟨r,hv,hr⟩=>⟨r,hv,r,rfl,?_⟩)
 have e:(if(!x.neg)=true then -(a.natAbs:Int)else(a.natAbs:Int)) = -a:=by
  rw[h.1]; simp only[Bool.not_eq_true',decide_eq_false_iff_not]; split<;>omega
 rw[e]at hr; exact hr
theorem u0p:dig 1=[1]:=by rw[g05 (by omega)]; simp[Y03]
theorem l0b{V:View}{x y:WhV}{s:Sl}{z:Cq}{a b:Int}{d:Nat}(hx:B04 V x a)(hy:B04 V y b)(hs:X00 V s d)(hz:Rep z a b d)(ha:wn a.natAbs<=2^43)(hb:wn b.natAbs<=2^43)(hd:wn d<=2^43) :
 a00 Tryz.prog z0k #[x.val,y.val,s.v] V λv V'=>∃r:NumV,v=r.val/\QAt V' r z:=by
 obtain⟨e1,e2,e3⟩:=hz.eqs
 have hp:=Z0d a b hz.pos
 have d1:=o0a a b d
 have d2:=a0c a b d
 have d3:=Q0e a b d
 refine e0j x y s V _ ((N09 hx.2 hy.2 ha hb).mono λv V1 l1 ⟨r1,hv,h1⟩=>⟨r1,hv,?_⟩)
 have hw1:wn (Nat.gcd a.natAbs b.natAbs)<=2^43:=by
  rcases Nat.eq_zero_or_pos a.natAbs with h|h
  . rw[h,Nat.gcd_zero_left]; exact hb
  . exact Nat.le_trans (z09 (Nat.le_of_dvd h (Nat.gcd_dvd_left _ _))) ha
 refine(N09 h1 (hs.le l1) hw1 hd).mono λv V2 l2 ⟨r2,hv,h2⟩=>⟨r2,hv,?_⟩
 have hg:Nat.gcd (Nat.gcd a.natAbs b.natAbs) d=gcd3 a b d:=rfl
 rw[hg]at h2
 have l02:=View.le_trans l1 l2
 have h2l:=h2.len
 have many:gcd3 a b d≠1->a00 Tryz.prog s07 #[x.mag.v,r2.v] V2 λv V8=>∃(r11:Sl) (r12:Sl),v = .tuple #[r11.v,r12.v] /\
  a00 Tryz.prog s07 #[y.mag.v,r2.v] V8 λv V9=>∃(r13:Sl) (r14:Sl),v = .tuple #[r13.v,r14.v] /\
  a00 Tryz.prog s07 #[s.v,r2.v] V9 λv V10=>∃(r15:Sl) (r16:Sl),v = .tuple #[r15.v,r16.v] /\
  a00 Tryz.prog m09 #[.bool x.neg,r11.v] V10 λv V11=>∃r17:WhV,v=r17.val /\
  a00 Tryz.prog m09 #[.bool y.neg,r13.v] V11 λv V12=>∃r18:WhV,v=r18.val/\∃r:NumV,(NumV.mk r17 r18 r15).val=r.val/\QAt V12 r z:=by
  intro _
  refine(I05 (hx.2.le l02) h2 ha (by omega)).mono λv V4 l4 ⟨q1,m1,hv,hq1,_⟩=>⟨q1,m1,hv,?_⟩
  refine(I05 (hy.2.le (View.le_trans l02 l4)) (h2.le l4) hb (by omega)).mono λv V5 l5 ⟨q2,m2,hv,hq2,_⟩=>⟨q2,m2,hv,?_⟩
  have l45:=View.le_trans l4 l5
  refine(I05 (hs.le (View.le_trans l02 l45)) (h2.le l45) hd (by omega)).mono λv V6 l6 ⟨q3,m3,hv,hq3,_⟩=>⟨q3,m3,hv,?_⟩
  refine(i07 x.neg (hq1.le (View.le_trans l5 l6))).mono λv V7 l7 ⟨w1,hv,hw1⟩=>⟨w1,hv,?_⟩
  refine(i07 y.neg (hq2.le (View.le_trans l6 l7))).mono λv V8 l8 ⟨w2,hv,hw2⟩=>⟨w2,hv,_,rfl,?_,?_,?_⟩
  . rw[e1]
    have e:(if x.neg=true then -((a.natAbs / gcd3 a b d:Nat):Int)else((a.natAbs / gcd3 a b d:Nat):Int))=a / (gcd3 a b d:Nat):=by
     have k1:=l05 d1
     have k2:=Q07 d1 hp
     rw[<-k1,hx.1]
     have k3:(a / (gcd3 a b d:Nat)<0)↔a<0:=by simpa using k2
     simp only[decide_eq_true_eq]
     split<;>omega
    rw[e]at hw1; exact hw1.le l8
  . rw[e2]
    have e:(if y.neg=true then -((b.natAbs / gcd3 a b d:Nat):Int)else((b.natAbs / gcd3 a b d:Nat):Int))=b / (gcd3 a b d:Nat):=by
     have k1:=l05 d2
     have k2:=Q07 d2 hp
     rw[<-k1,hy.1]
     have k3:(b / (gcd3 a b d:Nat)<0)↔b<0:=by simpa using k2
     simp only[decide_eq_true_eq]
     split<;>omega
    rw[e]at hw2; exact hw2
  . rw[e3]; exact hq3.le (View.le_trans l7 l8)
 refine⟨λhn => ?_,λhn=>⟨λh=>absurd h (by simp),λ_ => ?_⟩⟩
 . have hn:r2.len=1:=by have:(r2.len:Int)=1:=(by simpa using hn); omega
   refine⟨⟨by omega,by omega,h2.isSome (by omega)⟩,_,h2.get (by omega) (by omega),λhw => ?_,λhw => ?_⟩
   . have hw:(dig (gcd3 a b d)).getD 0 0=1:=by have:(((dig (gcd3 a b d)).getD 0 0:Nat):Int)=1:=of_decide_eq_true (by rw[<-hw]; rfl); omega
     have hg1:gcd3 a b d=1:=by
      rw[hn]at h2l
      have h3:=F01 (gcd3 a b d)
      obtain⟨w,hw'⟩:∃w,dig (gcd3 a b d)=[w]:=List.length_eq_one_iff.1 h2l.symm
      rw[hw']at hw h3
      simp[wval]at hw h3
      omega
     rw[hg1]at e1 e2 e3
     simp only[Int.natCast_one,Int.ediv_one]at e1 e2
     rw[Nat.div_one]at e3
     exact⟨_,rfl,by rw[e1]; exact hx.le l02,by rw[e2]; exact hy.le l02,by rw[e3]; exact hs.le l02⟩
   . refine many λh => ?_
     rw[h,u0p]at hw; simp at hw
 . refine many λh => ?_
   rw[h,u0p]at h2l
   rw[h2l]at hn; simp at hn
theorem C0c{V:View}{p q d:Int}(p0 : -9223372036854775808<=p)(p1:p<=9223372036854775807)(q0 : -9223372036854775808<=q)(q1:q<=9223372036854775807)(d0 : -9223372036854775808<=d)(d1:d<=9223372036854775807)(hd:d≠0) :
 a00 Tryz.prog b0n #[.int .i64 p,.int .i64 q,.int .i64 d] V λv V'=>∃r:NumV,v = .tuple #[r.val,.int .i64 0]/\QAt V' r ⟨(p:Rat) / (d:Rat),(q:Rat) / (d:Rat)⟩:=by
 refine N0k p q d V _ ⟨λh => ?_,λ_ => ?_⟩
 . exact absurd (by simpa using h) hd
 refine(X07 d0 d1).mono λv V1 l1 ⟨c,hv,hc⟩=>⟨c,hv,?_⟩
 refine(X07 p0 p1).mono λv V2 l2 ⟨a,hv,ha⟩=>⟨a,hv,?_⟩
 refine(X07 q0 q1).mono λv V3 l3 ⟨b,hv,hb⟩=>⟨b,hv,λhn => ?_,λhn => ?_⟩
 . have hneg:d<0:=by have:=hc.1; rw[hn]at this; simpa using this.symm
   refine(O09 (ha.le l3)).mono λv V4 l4 ⟨a',hv,ha'⟩=>⟨a',hv,?_⟩
   refine(O09 (hb.le l4)).mono λv V5 l5 ⟨b',hv,hb'⟩=>⟨b',hv,?_⟩
   refine(l0b (ha'.le l5) hb' (hc.2.le (View.le_trans l2 (View.le_trans l3 (View.le_trans l4 l5)))) ?_ (wn64 (by omega)) (wn64 (by omega)) (wn64 (by omega))).mono λv V6 l6 ⟨r,hv,hr⟩=>⟨r,hv,r,rfl,hr⟩
   have e:((d.natAbs:Nat):Rat) = -(d:Rat):=by
    have:(d.natAbs:Int) = -d:=by omega
    rw[<-Rat.intCast_natCast,this]; push_cast; rfl
   refine⟨by omega,?_,?_⟩<;>(simp only[e]; push_cast; rw[Rat.div_def,Rat.div_def]; grind)
 . have hpos:¬d<0:=by have:=hc.1; rw[hn]at this; simpa using this.symm
   refine(l0b (ha.le l3) hb (hc.2.le (View.le_trans l2 l3)) ?_ (wn64 (by omega)) (wn64 (by omega)) (wn64 (by omega))).mono λv V6 l6 ⟨r,hv,hr⟩=>⟨r,hv,r,rfl,hr⟩
   have e:((d.natAbs:Nat):Rat)=(d:Rat):=by
    have:(d.natAbs:Int)=d:=by omega
    rw[<-Rat.intCast_natCast,this]
   refine⟨by omega,?_,?_⟩<;>simp only[e]
