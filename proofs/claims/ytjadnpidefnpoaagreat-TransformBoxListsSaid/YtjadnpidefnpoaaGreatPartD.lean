/- Part. -/
import Derived.Test.YtjadnpidefnpoaaGreatPartC
import Derived.Deep.Slices
namespace Go.Proofs.YtjadnpidefnpoaaGreat
open Go Go.Vc Go.Proofs
open Go.Proofs.Tryz (prog)
open Go.IntKind (i64 u64 u32 u8)
theorem j0k{V:View}{s t:Sl}{a b:Nat}(hs:L00 V s a)(ht:L00 V t b)(ha:wn a<=2^43)(hb:wn b<=2^43) :
 a00 prog U0z #[s.v,t.v] V λv V'=>∃r:Sl,v=r.v/\L00 V' r (Nat.gcd a b):=by
 refine X0x s t V _ (λ_ x V'=>∃a' b',L00 V' x.t0 a'/\L00 V' x.t1 b'/\wn a'<=2^43/\wn b'<=2^43/\Nat.gcd a' b'=Nat.gcd a b) (λ_ x V'=>W0l V' x.t1) ⟨⟨a,b,hs,ht,ha,hb,rfl⟩,?_⟩
 rintro⟨x,y⟩ V1 l1 ⟨a',b',hx,hy,wa,wb,hg⟩
 simp only at hx hy ⊢
 have hyl:=hy.len
 refine⟨λhp => ?_,λhp => ?_⟩
 . simp only[gt_iff_lt,decide_eq_true_eq]at hp
   have hb0:b'≠0:=λe=>by rw[<-hy.len_zero]at e; omega
   refine(g0a hx hy wa hb0).mono λv V2 l2 ⟨q,r,hv,hq,hr⟩=>⟨q,r,hv,?_⟩
   have hlt:a'%b'<b':=Nat.mod_lt _ (by omega)
   have hwr:wn (a'%b')<=wn b':=T0b (Nat.le_of_lt hlt)
   refine⟨⟨b',a'%b',hy.le l2,hr,wb,by omega,?_⟩,?_⟩
   . rw[Nat.gcd_comm,<-Nat.gcd_rec,Nat.gcd_comm]; exact hg
   . rw[X0d hr,X0d hy]; exact hlt
 . simp only[gt_iff_lt,decide_eq_false_iff_not]at hp
   have hb0:b'=0:=hy.len_zero.1 (by omega)
   subst hb0
   rw[Nat.gcd_zero_right]at hg
   exact⟨x,rfl,by rw[<-hg]; exact hx⟩
theorem E04{V:View}{s:Sl}{n:Nat}(neg:Bool)(h:L00 V s n) :
 a00 prog p0e #[.bool neg,s.v] V λv V'=>∃r:WhV,v=r.val/\k03 V' r (if neg=true then -(n:Int)else n):=by
 have hl:=h.len_zero
 refine q0n neg s V _ ⟨λhn=>⟨_,rfl,?_,?_⟩,λhn=>⟨_,rfl,?_,?_⟩⟩
 . rw[if_pos hn]; simp only[gt_iff_lt,decide_eq_decide]; omega
 . rw[if_pos hn]; simpa using h
 . rw[if_neg (by simp[hn])]; symm; simp only[decide_eq_false_iff_not]; omega
 . rw[if_neg (by simp[hn])]; simpa using h
theorem b0b{V:View}{n:Int}(h0 : -9223372036854775808<=n)(h1:n<=9223372036854775807) :
 a00 prog s0x #[.int .i64 n] V λv V'=>∃r:WhV,v=r.val/\k03 V' r n:=by
 refine C0u n V _ ⟨λhn => ?_,λhn => ?_⟩
 . simp only[decide_eq_true_eq]at hn
   have e:u64.wrap (0-u64.wrap n) = -n:=by rw[u64m,u64m]; omega
   rw[e]
   refine(e08 (by omega) (by omega)).mono λv V1 _ ⟨r,hv,hr⟩=>⟨r,hv,_,rfl,by simp[hn],?_⟩
   have e2:n.natAbs=(-n).toNat:=by omega
   rw[e2]; exact hr
 . simp only[decide_eq_false_iff_not]at hn
   rw[u64w (by omega) (by omega)]
   refine(e08 (by omega) (by omega)).mono λv V1 _ ⟨r,hv,hr⟩=>⟨r,hv,_,rfl,by simp[hn],?_⟩
   have e2:n.natAbs=n.toNat:=by omega
   rw[e2]; exact hr
theorem Y05{V:View}{x:WhV}{a:Int}(h:k03 V x a) :
 a00 prog H0p #[x.val] V λv V'=>∃r:WhV,v=r.val/\k03 V' r (-a):=by
 refine s0n x V _ ((E04 (!x.neg) h.2).mono λv V1 _ ⟨r,hv,hr⟩=>⟨r,hv,r,rfl,?_⟩)
 have e:(if(!x.neg)=true then -(a.natAbs:Int)else(a.natAbs:Int)) = -a:=by
  rw[h.1]; simp only[Bool.not_eq_true',decide_eq_false_iff_not]; split<;>omega
 rw[e]at hr; exact hr
theorem y07{V:View}{x y:WhV}{a b:Int}(hx:k03 V x a)(hy:k03 V y b)(ha:wn a.natAbs<=2^43)(hb:wn b.natAbs<=2^43) :
 a00 prog P0r #[x.val,y.val] V λv V'=>∃r:WhV,v=r.val/\k03 V' r (a+b):=by
 have h1:=hx.1
 have h2:=hy.1
 refine c0q x y V _ ⟨λhs => ?_,λhs => ?_⟩
 . refine(c0t hx.2 hy.2 (by omega) (by omega)).mono λv V1 l1 ⟨r,hv,hr⟩=>⟨r,hv,?_⟩
   refine(E04 x.neg hr).mono λv V2 _ ⟨w,hv,hw⟩=>⟨w,hv,w,rfl,?_⟩
   have e:(if x.neg=true then -((a.natAbs+b.natAbs:Nat):Int)else((a.natAbs+b.natAbs:Nat):Int))=a+b:=by
    rw[h1,h2]at hs; rw[h1]
    by_cases p:a<0<;>by_cases q:b<0<;>simp[p,q]at hs ⊢<;>omega
   rw[e]at hw; exact hw
 . refine(L0c hx.2 hy.2 (by omega)).mono λv V1 l1 hv=>⟨_,hv,λhc => ?_,λhc => ?_⟩
   . have hc:b.natAbs<=a.natAbs:=by
       rcases Nat.lt_or_ge a.natAbs b.natAbs with h|h
       . rw[if_pos h]at hc; simp at hc
       . exact h
     refine(g0k (hx.2.le l1) (hy.2.le l1) (by omega) hc).mono λv V2 l2 ⟨r,hv,hr⟩=>⟨r,hv,?_⟩
     refine(E04 x.neg hr).mono λv V3 _ ⟨w,hv,hw⟩=>⟨w,hv,w,rfl,?_⟩
     have e:(if x.neg=true then -((a.natAbs-b.natAbs:Nat):Int)else((a.natAbs-b.natAbs:Nat):Int))=a+b:=by
      rw[h1,h2]at hs; rw[h1]
      by_cases p:a<0<;>by_cases q:b<0<;>simp[p,q]at hs ⊢<;>omega
     rw[e]at hw; exact hw
   . have hc:a.natAbs<=b.natAbs:=by
       rcases Nat.lt_or_ge b.natAbs a.natAbs with h|h
       . rw[if_neg (by omega),if_neg (by omega)]at hc; simp at hc
       . exact h
     refine(g0k (hy.2.le l1) (hx.2.le l1) (by omega) hc).mono λv V2 l2 ⟨r,hv,hr⟩=>⟨r,hv,?_⟩
     refine(E04 y.neg hr).mono λv V3 _ ⟨w,hv,hw⟩=>⟨w,hv,w,rfl,?_⟩
     have e:(if y.neg=true then -((b.natAbs-a.natAbs:Nat):Int)else((b.natAbs-a.natAbs:Nat):Int))=a+b:=by
      rw[h1,h2]at hs; rw[h2]
      by_cases p:a<0<;>by_cases q:b<0<;>simp[p,q]at hs ⊢<;>omega
     rw[e]at hw; exact hw
theorem o0w(x y a b:Int)(hx:x=if a<0 then -1 else 1)(hy:y=if b<0 then -1 else 1):a*b=x*y*(a.natAbs*b.natAbs:Nat):=by
 have ha:a=x*a.natAbs:=by rw[hx]; split<;>omega
 have hb:b=y*b.natAbs:=by rw[hy]; split<;>omega
 rw[Int.natCast_mul]
 conv=>lhs; rw[ha,hb]
 grind
theorem i08{V:View}{x y:WhV}{a b:Int}(hx:k03 V x a)(hy:k03 V y b)(ha:wn a.natAbs<=2^43)(hb:wn b.natAbs<=2^43) :
 a00 prog G0p #[x.val,y.val] V λv V'=>∃r:WhV,v=r.val/\k03 V' r (a*b):=by
 refine t0n x y V _ ((M0c hx.2 hy.2 (by omega) (by omega)).mono λv V1 l1 ⟨r,hv,hr⟩=>⟨r,hv,?_⟩)
 refine(E04 (!(x.neg==y.neg)) hr).mono λv V2 _ ⟨w,hv,hw⟩=>⟨w,hv,w,rfl,?_⟩
 have e:(if(!(x.neg==y.neg))=true then -((a.natAbs*b.natAbs:Nat):Int)else((a.natAbs*b.natAbs:Nat):Int))=a*b:=by
  rw[o0w _ _ a b rfl rfl,hx.1,hy.1]
  by_cases p:a<0<;>by_cases q:b<0<;>simp[p,q]
 rw[e]at hw; exact hw
theorem X03{V:View}{x:WhV}{s:Sl}{a:Int}{n:Nat}(hx:k03 V x a)(hs:L00 V s n)(ha:wn a.natAbs<=2^43)(hb:wn n<=2^43) :
 a00 prog j0n #[x.val,s.v] V λv V'=>∃r:WhV,v=r.val/\k03 V' r (a*n):=by
 refine K0l x s V _ ((M0c hx.2 hs (by omega) (by omega)).mono λv V1 l1 ⟨r,hv,hr⟩=>⟨r,hv,?_⟩)
 refine(E04 x.neg hr).mono λv V2 _ ⟨w,hv,hw⟩=>⟨w,hv,w,rfl,?_⟩
 have e:(if x.neg=true then -((a.natAbs*n:Nat):Int)else((a.natAbs*n:Nat):Int))=a*n:=by
  conv=>rhs; rw[hx.val]
  rw[Int.natCast_mul]; split
  . rw[Int.neg_mul]
  . rfl
 rw[e]at hw; exact hw
theorem T0g{V:View}{x y:WhV}{a b:Int}(hx:k03 V x a)(hy:k03 V y b)(ha:wn a.natAbs<=2^43)(hb:wn b.natAbs<=2^43) :
 a00 prog e0u #[x.val,y.val] V λv _=>v = .int .i64 (cmpZ a b):=by
 refine p0s x y V _ ((Y05 hy).mono λv V1 l1 ⟨r,hv,hr⟩=>⟨r,hv,?_⟩)
 refine(y07 (hx.le l1) hr ha (by rw[Int.natAbs_neg]; exact hb)).mono λv V2 l2 ⟨w,hv,hw⟩=>⟨w,hv,λh => ?_,λh => ?_⟩
 . have:a + -b<0:=by have:=hw.1; rw[h]at this; simpa using this
   rw[b0v (by omega)]
 . have h1:¬a + -b<0:=by have:=hw.1; rw[h]at this; simpa using this
   have h2:=hw.2.len_zero
   by_cases e:a=b
   . have:w.mag.len=0:=h2.2 (by omega)
     rw[c0v e,this]; rfl
   . have:w.mag.len≠0:=λh=>by have:=h2.1 h; omega
     rw[d0v (by omega)]
     congr 1; split<;>omega
theorem g06{V:View}{x y:WhV}{s:Sl}{z:Cq}{a b:Int}{d:Nat}(hx:k03 V x a)(hy:k03 V y b)(hs:L00 V s d)(hz:Rep z a b d)(ha:wn a.natAbs<=2^43)(hb:wn b.natAbs<=2^43)(hd:wn d<=2^43) :
 a00 prog q0x #[x.val,y.val,s.v] V λv V'=>∃r:NumV,v=r.val/\K05 V' r z:=by
 obtain⟨e1,e2,e3⟩:=hz.eqs
 have hp:=G0q a b hz.pos
 have d1:=t0i a b d
 have d2:=u0i a b d
 have d3:=X0l a b d
 refine D0u x y s V _ ((j0k hx.2 hy.2 ha hb).mono λv V1 l1 ⟨r1,hv,h1⟩=>⟨r1,hv,?_⟩)
 have hw1:wn (Nat.gcd a.natAbs b.natAbs)<=2^43:=by
  rcases Nat.eq_zero_or_pos a.natAbs with h|h
  . rw[h,Nat.gcd_zero_left]; exact hb
  . exact Nat.le_trans (T0b (Nat.le_of_dvd h (Nat.gcd_dvd_left _ _))) ha
 refine(j0k h1 (hs.le l1) hw1 hd).mono λv V2 l2 ⟨r2,hv,h2⟩=>⟨r2,hv,?_⟩
 have hg:Nat.gcd (Nat.gcd a.natAbs b.natAbs) d=gcd3 a b d:=rfl
 rw[hg]at h2
 refine(E0f h2).mono λv V3 l3 hv=>⟨_,hv,λhn => ?_,λhn => ?_⟩
 . have l13:=View.le_trans l1 (View.le_trans l2 l3)
   refine(g0a (hx.2.le l13) (h2.le l3) ha (by omega)).mono λv V4 l4 ⟨q1,m1,hv,hq1,_⟩=>⟨q1,m1,hv,?_⟩
   refine(g0a (hy.2.le (View.le_trans l13 l4)) (h2.le (View.le_trans l3 l4)) hb (by omega)).mono λv V5 l5 ⟨q2,m2,hv,hq2,_⟩=>⟨q2,m2,hv,?_⟩
   have l45:=View.le_trans l4 l5
   refine(g0a (hs.le (View.le_trans l13 l45)) (h2.le (View.le_trans l3 l45)) hd (by omega)).mono λv V6 l6 ⟨q3,m3,hv,hq3,_⟩=>⟨q3,m3,hv,?_⟩
   have f1:k03 V6 (WhV.mk x.neg q1) z.A:=⟨by rw[e1,A0e d1 hp]; exact hx.1,by rw[e1,w08 d1]; exact hq1.le (View.le_trans l5 l6)⟩
   have f2:k03 V6 (WhV.mk y.neg q2) z.B:=⟨by rw[e2,A0e d2 hp]; exact hy.1,by rw[e2,w08 d2]; exact hq2.le l6⟩
   refine(E0f hq3).mono λv V7 l7 hv=>⟨_,hv,λh=>⟨_,rfl,f1.le l7,f2.le l7,?_⟩,λh=>⟨_,rfl,f1.le l7,f2.le l7,?_⟩⟩
   . simp only[decide_eq_true_eq]at h
     rw[e3,if_pos h]; exact L00.zero V7
   . simp only[decide_eq_false_iff_not]at h
     rw[e3,if_neg h]; exact hq3.le l7
 . simp only[Bool.not_eq_false',decide_eq_true_eq]at hn
   rw[hn]at e1 e2 e3
   simp only[Int.natCast_one,Int.ediv_one]at e1 e2
   rw[Nat.div_one]at e3
   have l13:=View.le_trans l1 (View.le_trans l2 l3)
   refine(E0f (hs.le l13)).mono λv V7 l7 hv=>⟨_,hv,λh=>⟨_,rfl,?_,?_,?_⟩,λh=>⟨_,rfl,?_,?_,?_⟩⟩
   . rw[e1]; exact hx.le (View.le_trans l13 l7)
   . rw[e2]; exact hy.le (View.le_trans l13 l7)
   . simp only[decide_eq_true_eq]at h
     rw[e3,if_pos h]; exact L00.zero V7
   . rw[e1]; exact hx.le (View.le_trans l13 l7)
   . rw[e2]; exact hy.le (View.le_trans l13 l7)
   . simp only[decide_eq_false_iff_not]at h
     rw[e3,if_neg h]; exact hs.le (View.le_trans l13 l7)
theorem B03{V:View}{x:NumV}{z:Cq}(h:K05 V x z):a00 prog M0z #[x.val] V λv V'=>∃r:Sl,v=r.v/\L00 V' r z.D:=by
 have hu:=h.under
 have hl:=hu.len_zero
 have hD:=z.D_pos
 refine Y0x x V _ ⟨λh0 => ?_,λh0 => ?_⟩
 . have h0:x.under.len=0:=by have:(x.under.len:Int)=0:=(by simpa using h0); omega
   intro b V1 l1 _ hb
   have hz:=hl.1 h0
   have h1:z.D=1:=by split at hz<;>omega
   refine⟨_,rfl,?_⟩
   rw[h1]
   have:dig 1=[1]:=by rw[O06 (by omega)]; simp[t05]
   unfold L00; rw[this]
   exact Y01.of_block (by rw[hb]; rfl) rfl (Nat.le_refl _) (by intro d hd; simp at hd; omega)
 . have h0:x.under.len≠0:=by have:¬(x.under.len:Int)=0:=(by simpa using h0); omega
   refine⟨_,rfl,?_⟩
   have hz:¬(if z.D=1 then 0 else z.D)=0:=λe=>h0 (hl.2 e)
   split at hz
   . omega
   . rename_i h1; rw[if_neg h1]at hu; exact hu
theorem k0k{V:View}{n:Int}(h0 : -9223372036854775808<=n)(h1:n<=9223372036854775807) :
 a00 prog E0z #[.int .i64 n] V λv V'=>∃r:NumV,v=r.val/\K05 V' r ⟨(n:Rat),0⟩:=by
 obtain⟨e1,e2,e3⟩:=n0a n
 refine Z0x n V _ ((b0b h0 h1).mono λv V1 _ ⟨r,hv,hr⟩=>⟨r,hv,_,rfl,by rw[e1]; exact hr,by rw[e2]; exact k03.zero _,by rw[e3]; exact L00.zero _⟩)
theorem wn64{n:Nat}(h:n<=18446744073709551615):wn n<=2^43:=by
 have:wn n<=2:=y04 (by omega)
 omega
theorem i0a{V:View}{p q d:Int}(p0 : -9223372036854775808<=p)(p1:p<=9223372036854775807)(q0 : -9223372036854775808<=q)(q1:q<=9223372036854775807)(d0 : -9223372036854775808<=d)(d1:d<=9223372036854775807)(hd:d≠0) :
 a00 prog K0z #[.int .i64 p,.int .i64 q,.int .i64 d] V λv V'=>∃r:NumV,v = .tuple #[r.val,.int .i64 0]/\K05 V' r ⟨(p:Rat) / (d:Rat),(q:Rat) / (d:Rat)⟩:=by
 refine a0y p q d V _ ⟨λh => ?_,λ_ => ?_⟩
 . exact absurd (by simpa using h) hd
 refine(b0b p0 p1).mono λv V1 l1 ⟨a,hv,ha⟩=>⟨a,hv,?_⟩
 refine(b0b q0 q1).mono λv V2 l2 ⟨b,hv,hb⟩=>⟨b,hv,?_⟩
 refine(b0b d0 d1).mono λv V3 l3 ⟨c,hv,hc⟩=>⟨c,hv,λhn => ?_,λhn => ?_⟩
 . have hneg:d<0:=by have:=hc.1; rw[hn]at this; simpa using this.symm
   refine(Y05 (ha.le (View.le_trans l2 l3))).mono λv V4 l4 ⟨a',hv,ha'⟩=>⟨a',hv,?_⟩
   refine(Y05 (hb.le (View.le_trans l3 l4))).mono λv V5 l5 ⟨b',hv,hb'⟩=>⟨b',hv,?_⟩
   refine(g06 (ha'.le l5) hb' (hc.2.le (View.le_trans l4 l5)) ?_ (wn64 (by omega)) (wn64 (by omega)) (wn64 (by omega))).mono λv V6 l6 ⟨r,hv,hr⟩=>⟨r,hv,r,rfl,hr⟩
   have e:((d.natAbs:Nat):Rat) = -(d:Rat):=by
    have:(d.natAbs:Int) = -d:=by omega
    rw[<-Rat.intCast_natCast,this]; push_cast; rfl
   refine⟨by omega,?_,?_⟩<;>(simp only[e]; push_cast; rw[Rat.div_def,Rat.div_def]; grind)
 . have hpos:¬d<0:=by have:=hc.1; rw[hn]at this; simpa using this.symm
   refine(g06 (ha.le (View.le_trans l2 l3)) (hb.le l3) hc.2 ?_ (wn64 (by omega)) (wn64 (by omega)) (wn64 (by omega))).mono λv V6 l6 ⟨r,hv,hr⟩=>⟨r,hv,r,rfl,hr⟩
   have e:((d.natAbs:Nat):Rat)=(d:Rat):=by
    have:(d.natAbs:Int)=d:=by omega
    rw[<-Rat.intCast_natCast,this]
   refine⟨by omega,?_,?_⟩<;>simp only[e]
theorem Cq.wA{z:Cq}(h:z.sz<=2^40):wn z.A.natAbs<=2^35:=p0d (by have:=z.szA; omega)
theorem Cq.wB{z:Cq}(h:z.sz<=2^40):wn z.B.natAbs<=2^35:=p0d (by have:=z.szB; omega)
theorem Cq.wD{z:Cq}(h:z.sz<=2^40):wn z.D<=2^35:=p0d (by have:=z.szD; omega)
theorem s06{a b:Int}{k:Nat}(ha:wn a.natAbs<=k)(hb:wn b.natAbs<=k):wn (a*b).natAbs<=2*k:=by
 rw[Int.natAbs_mul]; have:=W0d a.natAbs b.natAbs; omega
theorem I0f{a b:Int}{k:Nat}(ha:wn a.natAbs<=k)(hb:wn b.natAbs<=k):wn (a+b).natAbs<=k+1:=by
 have:=T0b (Int.natAbs_add_le a b); have:=w10 a.natAbs b.natAbs; omega
theorem n11{a:Int}{k:Nat}(ha:wn a.natAbs<=k):wn (-a).natAbs<=k:=by rw[Int.natAbs_neg]; exact ha
theorem J0f{V:View}{x y:NumV}{z w:Cq}(hx:K05 V x z)(hy:K05 V y w)(hz:z.sz<=2^40)(hw:w.sz<=2^40) :
 a00 prog C0z #[x.val,y.val] V λv V'=>∃r:NumV,v=r.val/\K05 V' r (z+w):=by
 have zA:=Cq.wA hz; have zB:=Cq.wB hz; have zD:=Cq.wD hz
 have wA:=Cq.wA hw; have wB:=Cq.wB hw; have wD:=Cq.wD hw
 have zD':wn (z.D:Int).natAbs<=2^35:=zD
 have wD':wn (w.D:Int).natAbs<=2^35:=wD
 have s1:=s06 zA wD'; have s2:=s06 wA zD'; have s3:=s06 zB wD'; have s4:=s06 wB zD'
 have s5:=I0f s1 s2; have s6:=I0f s3 s4
 have s7:=W0d z.D w.D
 refine b0y x y V _ ((B03 hx).mono λv V1 l1 ⟨r1,hv,h1⟩=>⟨r1,hv,?_⟩)
 replace hx:=hx.le l1; replace hy:=hy.le l1
 refine(B03 hy).mono λv V2 l2 ⟨r2,hv,h2⟩=>⟨r2,hv,?_⟩
 replace hx:=hx.le l2; replace hy:=hy.le l2; replace h1:=h1.le l2
 refine(X03 hx.re h2 (by omega) (by omega)).mono λv V3 l3 ⟨r3,hv,h3⟩=>⟨r3,hv,?_⟩
 replace hx:=hx.le l3; replace hy:=hy.le l3; replace h1:=h1.le l3; replace h2:=h2.le l3
 refine(X03 hy.re h1 (by omega) (by omega)).mono λv V4 l4 ⟨r4,hv,h4⟩=>⟨r4,hv,?_⟩
 replace hx:=hx.le l4; replace hy:=hy.le l4; replace h1:=h1.le l4; replace h2:=h2.le l4; replace h3:=h3.le l4
 refine(y07 h3 h4 (by omega) (by omega)).mono λv V5 l5 ⟨r5,hv,h5⟩=>⟨r5,hv,?_⟩
 replace hx:=hx.le l5; replace hy:=hy.le l5; replace h1:=h1.le l5; replace h2:=h2.le l5
 refine(X03 hx.im h2 (by omega) (by omega)).mono λv V6 l6 ⟨r6,hv,h6⟩=>⟨r6,hv,?_⟩
 replace hy:=hy.le l6; replace h1:=h1.le l6; replace h2:=h2.le l6; replace h5:=h5.le l6
 refine(X03 hy.im h1 (by omega) (by omega)).mono λv V7 l7 ⟨r7,hv,h7⟩=>⟨r7,hv,?_⟩
 replace h1:=h1.le l7; replace h2:=h2.le l7; replace h5:=h5.le l7; replace h6:=h6.le l7
 refine(y07 h6 h7 (by omega) (by omega)).mono λv V8 l8 ⟨r8,hv,h8⟩=>⟨r8,hv,?_⟩
 replace h1:=h1.le l8; replace h2:=h2.le l8; replace h5:=h5.le l8
 refine(M0c h1 h2 (by omega) (by omega)).mono λv V9 l9 ⟨r9,hv,h9⟩=>⟨r9,hv,?_⟩
 exact(g06 (h5.le l9) (h8.le l9) h9 (z.canon.rep.add w.canon.rep) (by omega) (by omega) (by omega)).mono λv V10 _ ⟨r,hv,hr⟩=>⟨r,hv,r,rfl,hr⟩
theorem K0f{V:View}{x:NumV}{z:Cq}(hx:K05 V x z):a00 prog H0z #[x.val] V λv V'=>∃r:NumV,v=r.val/\K05 V' r (-z):=by
 obtain⟨e1,e2,e3⟩:=z.neg_eqs
 refine c0y x V _ ((Y05 hx.re).mono λv V1 l1 ⟨r1,hv,h1⟩=>⟨r1,hv,?_⟩)
 exact(Y05 (hx.im.le l1)).mono λv V2 l2 ⟨r2,hv,h2⟩=>⟨r2,hv,_,rfl,by rw[e1]; exact h1.le l2,by rw[e2]; exact h2,by rw[e3]; exact hx.under.le (View.le_trans l1 l2)⟩
theorem f0t{V:View}{x y:NumV}{z w:Cq}(hx:K05 V x z)(hy:K05 V y w)(hz:z.sz<=2^40)(hw:w.sz<=2^40) :
 a00 prog I0z #[x.val,y.val] V λv V'=>∃r:NumV,v=r.val/\K05 V' r (z-w):=by
 refine d0y x y V _ ((K0f hy).mono λv V1 l1 ⟨r1,hv,h1⟩=>⟨r1,hv,?_⟩)
 rw[Cq.sub_eq]
 exact(J0f (hx.le l1) h1 hz (by rw[W0f]; exact hw)).mono λv V2 _ ⟨r,hv,hr⟩=>⟨r,hv,r,rfl,hr⟩
theorem l0k{V:View}{x y:NumV}{z w:Cq}(hx:K05 V x z)(hy:K05 V y w)(hz:z.sz<=2^40)(hw:w.sz<=2^40) :
 a00 prog F0z #[x.val,y.val] V λv V'=>∃r:NumV,v=r.val/\K05 V' r (z*w):=by
 have zA:=Cq.wA hz; have zB:=Cq.wB hz; have zD:=Cq.wD hz
 have wA:=Cq.wA hw; have wB:=Cq.wB hw; have wD:=Cq.wD hw
 have s1:=s06 zA wA; have s2:=s06 zB wB; have s2':=n11 s2; have s3:=s06 zA wB; have s4:=s06 zB wA
 have s5:=I0f s1 s2'; have s6:=I0f s3 s4
 have s7:=W0d z.D w.D
 refine e0y x y V _ ((i08 hx.re hy.re (by omega) (by omega)).mono λv V1 l1 ⟨r1,hv,h1⟩=>⟨r1,hv,?_⟩)
 replace hx:=hx.le l1; replace hy:=hy.le l1
 refine(i08 hx.im hy.im (by omega) (by omega)).mono λv V2 l2 ⟨r2,hv,h2⟩=>⟨r2,hv,?_⟩
 replace hx:=hx.le l2; replace hy:=hy.le l2; replace h1:=h1.le l2
 refine(Y05 h2).mono λv V3 l3 ⟨r3,hv,h3⟩=>⟨r3,hv,?_⟩
 replace hx:=hx.le l3; replace hy:=hy.le l3; replace h1:=h1.le l3
 refine(y07 h1 h3 (by omega) (by omega)).mono λv V4 l4 ⟨r4,hv,h4⟩=>⟨r4,hv,?_⟩
 replace hx:=hx.le l4; replace hy:=hy.le l4
 refine(i08 hx.re hy.im (by omega) (by omega)).mono λv V5 l5 ⟨r5,hv,h5⟩=>⟨r5,hv,?_⟩
 replace hx:=hx.le l5; replace hy:=hy.le l5; replace h4:=h4.le l5
 refine(i08 hx.im hy.re (by omega) (by omega)).mono λv V6 l6 ⟨r6,hv,h6⟩=>⟨r6,hv,?_⟩
 replace hx:=hx.le l6; replace hy:=hy.le l6; replace h4:=h4.le l6; replace h5:=h5.le l6
 refine(y07 h5 h6 (by omega) (by omega)).mono λv V7 l7 ⟨r7,hv,h7⟩=>⟨r7,hv,?_⟩
 replace hx:=hx.le l7; replace hy:=hy.le l7; replace h4:=h4.le l7
 refine(B03 hx).mono λv V8 l8 ⟨r8,hv,h8⟩=>⟨r8,hv,?_⟩
 replace hy:=hy.le l8; replace h4:=h4.le l8; replace h7:=h7.le l8
 refine(B03 hy).mono λv V9 l9 ⟨r9,hv,h9⟩=>⟨r9,hv,?_⟩
 replace h4:=h4.le l9; replace h7:=h7.le l9; replace h8:=h8.le l9
 refine(M0c h8 h9 (by omega) (by omega)).mono λv V10 l10 ⟨r10,hv,h10⟩=>⟨r10,hv,?_⟩
 refine(g06 (h4.le l10) (h7.le l10) h10 ?_ (by omega) (by omega) (by omega)).mono λv V11 _ ⟨r,hv,hr⟩=>⟨r,hv,r,rfl,hr⟩
 rw[<-Int.sub_eq_add_neg]; exact z.canon.rep.mul w.canon.rep
theorem D0e{V:View}{x:NumV}{z:Cq}(hx:K05 V x z):a00 prog t0x #[x.val] V λv _=>v = .bool (decide (z.im=0)):=by
 refine E0u x V _ ?_
 have h1:=hx.im.2.len_zero
 have h2:=D12 (z:=z)
 congr 1
 by_cases e:z.im=0
 . have:x.im.mag.len=0:=h1.2 (by rw[h2.2 e]; rfl)
   simp[e,this]
 . have:x.im.mag.len≠0:=λh=>e (h2.1 (by have:=h1.1 h; omega))
   simp only[e,decide_false,beq_eq_false_iff_ne,ne_eq]; omega
theorem g0t{V:View}{x y:NumV}{z w:Cq}(hx:K05 V x z)(hy:K05 V y w)(hz:z.sz<=2^40)(hw:w.sz<=2^40) :
 a00 prog D0z #[x.val,y.val] V λv _=>v = .int .i64 (z.cmp w):=by
 have zA:=Cq.wA hz; have zB:=Cq.wB hz; have zD:=Cq.wD hz
 have wA:=Cq.wA hw; have wB:=Cq.wB hw; have wD:=Cq.wD hw
 have zD':wn (z.D:Int).natAbs<=2^35:=zD
 have wD':wn (w.D:Int).natAbs<=2^35:=wD
 have s1:=s06 zA wD'; have s2:=s06 wA zD'; have s3:=s06 zB wD'; have s4:=s06 wB zD'
 have c1:cmpZ (z.A*w.D) (w.A*z.D)=cmpR z.re w.re:=by rw[B10 z.D_pos w.D_pos,<-z.canon.rep.re,<-w.canon.rep.re]
 have c2:cmpZ (z.B*w.D) (w.B*z.D)=cmpR z.im w.im:=by rw[B10 z.D_pos w.D_pos,<-z.canon.rep.im,<-w.canon.rep.im]
 refine f0y x y V _ ((B03 hy).mono λv V1 l1 ⟨r1,hv,h1⟩=>⟨r1,hv,?_⟩)
 replace hx:=hx.le l1; replace hy:=hy.le l1
 refine(X03 hx.re h1 (by omega) (by omega)).mono λv V2 l2 ⟨r2,hv,h2⟩=>⟨r2,hv,?_⟩
 replace hx:=hx.le l2; replace hy:=hy.le l2
 refine(B03 hx).mono λv V3 l3 ⟨r3,hv,h3⟩=>⟨r3,hv,?_⟩
 replace hx:=hx.le l3; replace hy:=hy.le l3; replace h2:=h2.le l3
 refine(X03 hy.re h3 (by omega) (by omega)).mono λv V4 l4 ⟨r4,hv,h4⟩=>⟨r4,hv,?_⟩
 replace hx:=hx.le l4; replace hy:=hy.le l4; replace h2:=h2.le l4
 refine(T0g h2 h4 (by omega) (by omega)).mono λv V5 l5 hv=>⟨_,hv,λhn => ?_,λhn => ?_⟩
 . rw[c1]at hn ⊢
   have hn:cmpR z.re w.re≠0:=by simpa using hn
   unfold Cq.cmp; rw[if_pos hn]
 . rw[c1]at hn
   have hn:¬cmpR z.re w.re≠0:=by simpa using hn
   replace hx:=hx.le l5; replace hy:=hy.le l5
   refine(B03 hy).mono λv V6 l6 ⟨r6,hv,h6⟩=>⟨r6,hv,?_⟩
   replace hx:=hx.le l6; replace hy:=hy.le l6
   refine(X03 hx.im h6 (by omega) (by omega)).mono λv V7 l7 ⟨r7,hv,h7⟩=>⟨r7,hv,?_⟩
   replace hx:=hx.le l7; replace hy:=hy.le l7
   refine(B03 hx).mono λv V8 l8 ⟨r8,hv,h8⟩=>⟨r8,hv,?_⟩
   replace hx:=hx.le l8; replace hy:=hy.le l8; replace h7:=h7.le l8
   refine(X03 hy.im h8 (by omega) (by omega)).mono λv V9 l9 ⟨r9,hv,h9⟩=>⟨r9,hv,?_⟩
   replace h7:=h7.le l9
   refine(T0g h7 h9 (by omega) (by omega)).mono λv V10 l10 hv=>⟨_,hv,?_⟩
   unfold Cq.cmp; rw[if_neg hn,c2]
def lenB(n:Nat):Bool:=[1,2,4,8,16,32,64].contains n
theorem E15:∀n∈List.range 65,1<=n->(i64.wrap (BitVec.toNat ((BitVec.ofInt i64.bits (n:Int)) &&& (BitVec.ofInt i64.bits (i64.wrap ((n:Int)-1)))))==0)=lenB n:=by
 decide +kernel
theorem B0a{n:Nat}(h:lenB n=true):1<=n/\n<=64:=by
 simp[lenB]at h; omega
theorem Y03{V:View}{n:Int}(h0:0<=n):a00 prog F0c #[.int .i64 n] V λv _=>v = .bool (lenB n.toNat):=by
 refine C0b n V _ ⟨λh1=>⟨λh2 => ?_,λh2 => ?_⟩,λh1=>⟨λh=>absurd h (by simp),λ_ => ?_⟩⟩
 . simp only[decide_eq_true_eq]at h1 h2
   have:=E15 n.toNat (by simp; omega) (by omega)
   rw[Int.toNat_of_nonneg h0]at this
   rw[this]
 . simp only[decide_eq_false_iff_not]at h2
   congr 1; symm
   rw[Bool.eq_false_iff]; intro e
   have:=B0a e; omega
 . simp only[decide_eq_false_iff_not]at h1
   congr 1; symm
   rw[Bool.eq_false_iff]; intro e
   have:=B0a e; omega
theorem w0h{V:View}(p q:Sl):a00 prog d0d #[p.v,q.v] V λv _=>v = .bool (lenB q.len&&decide (p.len=q.len)):=by
 refine q0c p q V _ ((Y03 (Int.natCast_nonneg _)).mono λv V1 l1 hv=>⟨_,hv,λh => ?_,λh => ?_⟩)
 . rw[Int.toNat_natCast]at h
   rw[h,Bool.true_and]; congr 1
   rw[Bool.eq_iff_iff]; simp; omega
 . rw[Int.toNat_natCast]at h
   rw[h,Bool.false_and]
def ratQ(r:RatV):Cq:=if r.den=0 then⟨(r.re:Rat),(r.im:Rat)⟩else⟨(r.re:Rat) / (r.den:Rat),(r.im:Rat) / (r.den:Rat)⟩
def ratI(r:RatV):Prop:=(-9223372036854775808<=r.re/\r.re<=9223372036854775807)/\(-9223372036854775808<=r.im/\r.im<=9223372036854775807)/\(-9223372036854775808<=r.den/\r.den<=9223372036854775807)
def ratC(_:View)(x:List Value)(r:RatV):Prop:=x=r.val.cells.toList
def Z0d(V:View)(s:Sl)(rs:List RatV):Prop:=l01 3 ratC V s rs
theorem Z0d.le{V V':View}(hle:V.le V'){s:Sl}{rs:List RatV}(h:Z0d V s rs):Z0d V' s rs:=l01.le (P:=ratC) (V:=V) (V':=V') (λ_ _ h=>h) hle h
theorem j0a{V:View}{r:RatV}(h:ratI r):a00 prog B0z #[r.val] V λv V'=>∃x:NumV,v=x.val/\K05 V' x (ratQ r):=by
 obtain⟨⟨a1,a2⟩,⟨b1,b2⟩,⟨c1,c2⟩⟩:=h
 refine g0y r V _ ⟨λh0 => ?_,λh0 => ?_⟩
 . have h0:r.den=0:=by simpa using h0
   refine(i0a a1 a2 b1 b2 (by omega) (by omega) (by omega)).mono λv V1 _ ⟨x,hv,hx⟩=>⟨x,0,hv,x,rfl,?_⟩
   have e:ratQ r=⟨(r.re:Rat) / ((1:Int):Rat),(r.im:Rat) / ((1:Int):Rat)⟩:=by
    unfold ratQ; rw[if_pos h0]; simp only[Rat.div_def,Cq.mk.injEq]; constructor<;>grind
   rw[e]; exact hx
 . have h0:r.den≠0:=by simpa using h0
   refine(i0a a1 a2 b1 b2 c1 c2 h0).mono λv V1 _ ⟨x,hv,hx⟩=>⟨x,0,hv,x,rfl,?_⟩
   unfold ratQ; rw[if_neg h0]; exact hx
theorem T0n{V:View}{s:Sl}{rs:List RatV}(h:Z0d V s rs)(hi:∀r∈rs,ratI r)(hn:rs.length<=2^32) :
 a00 prog d0u #[s.v] V λv V'=>∃r:Sl,v=r.v/\X08 V' r (rs.map ratQ):=by
 have hl:=h.len
 let f:Nat->Cq:=λi=>nth (rs.map ratQ) i
 refine q0s s V _ (λ_ x V'=>0<=x.t11/\x.t11<=s.len/\x08 V' x.o8 (Q0g s.len x.t11.toNat f)) (λ_ x _=>s.len-x.t11.toNat)
  ⟨⟨by omega,by omega,by omega,by omega⟩,⟨by simp,by simp,?_⟩,?_⟩
 . simp only[Int.toNat_zero,e0v,Int.toNat_natCast]; exact x08.zeros _ _
 rintro⟨t,o⟩ V1 l1 ⟨h0,h1,ho⟩
 simp only at h0 h1 ho ⊢
 refine⟨λhlt => ?_,λhge => ?_⟩
 . simp only[decide_eq_true_eq]at hlt
   have hk:t.toNat<rs.length:=by omega
   obtain⟨hb,x,hx,_,hh,hs⟩:=(h.le l1).get h0 (z:=rs[t.toNat]) (by simp[hk])
   refine⟨hb,rs[t.toNat],hx▸hh,hs,(j0a (hi _ (List.getElem_mem _))).mono λv V2 l2 ⟨r,hv,hr⟩=>⟨r,hv,⟨h0,by simpa using hlt⟩,?_,?_⟩⟩
   . exact y01.room ho (by rw[z0i (by omega)]; omega)
   . have e:i64.wrap (t+1)=t+1:=i64w (by omega) (by omega)
     have e2:(t+1).toNat=t.toNat+1:=by omega
     have ef:f t.toNat=ratQ rs[t.toNat]:=by simp[f,nth,List.getD,hk]
     refine⟨⟨by rw[e]; omega,by rw[e]; omega,?_⟩,by simp only[e,e2]; omega⟩
     simp only[e,e2]
     rw[<-B0y (by omega),ef]
     exact(ho.le l2).set (by rw[z0i (by omega)]; omega) hr
 . simp only[decide_eq_false_iff_not]at hge
   intro b V3 l3 hb
   have e:t.toNat=s.len:=by omega
   rw[e,A0y]at ho
   have e2:(List.range s.len).map f=rs.map ratQ:=by
    have:=Y0l (rs.map ratQ)
    rw[List.length_map]at this
    rw[hl]; exact this
   rw[e2]at ho
   exact⟨_,rfl,G02 hb (ho.le l3) (by simp[hl])⟩
theorem m0m(r:NumV):∀v∈[Value.bool r.re.neg,r.re.mag.v,Value.bool r.im.neg,r.im.mag.v,r.under.v],Value.oneCell' v=true:=by
 intro v hv
 simp only[List.mem_cons,List.not_mem_nil,or_false]at hv
 rcases hv with rfl|rfl|rfl|rfl|rfl<;>rfl
theorem X0b{V:View}{b:Nat}{l:List Value}(h:V b=some l.toArray):V.has (some (Addr.mk b 0 none)) l:=by
 intro j v hj
 rw[P0o h]; simpa using hj
theorem L07{V:View}{s:Sl}{zs:List Cq}{a:Int}(h:X08 V s zs)(ha:0<=a)(ha1:a<=1)(hn:zs.length<=2^32)(hn1:1<=zs.length) :
 a00 prog m0c #[s.v,.int .i64 a] V λv V'=>∃r:Sl,v=r.v/\X08 V' r (B02 zs a.toNat):=by
 have hl:=h.len
 refine D0b s a V _ (λ_ x V'=>∃l,x.t6=a+2*x.t5l/\2*x.t5l+a.toNat<=zs.length+1/\n05 5 x.t5l x.t5c x.o5 l/\x08 V' l ((List.range x.t5l).map λk=>nth zs (a.toNat+2*k)))
  (λ_ x _=>zs.length+2-2*x.t5l) ⟨⟨[],by simp,by simp; omega,n05.nil,rfl⟩,?_⟩
 rintro⟨n,c,t,o⟩ V1 l1 ⟨l,ht,hm,hlo,hin⟩
 simp only at ht hm hlo hin ⊢
 refine⟨λhlt => ?_,λhge => ?_⟩
 . simp only[decide_eq_true_eq]at hlt
   obtain⟨hb,x,hx,hs,hnx⟩:=(h.le l1).get (t:=t) (by omega) (by omega)
   refine⟨hb,x,hx,hs,λb V2 l2 hf hV2 => ?_⟩
   refine⟨l,_,hlo,X0b (l:=[.bool x.re.neg,x.re.mag.v,.bool x.im.neg,x.im.mag.v,x.under.v]) hV2,rfl,m0m x,?_,?_,λc1 l3 hl3 => ?_⟩
   . simp only[maxLen]; omega
   . omega
   . have e:i64.wrap (t+2)=t+2:=i64w (by omega) (by omega)
     refine⟨⟨_,by rw[e]; simp; omega,by omega,hl3,?_⟩,by omega⟩
     rw[<-Q0o]
     have e3:a.toNat+2*n=t.toNat:=by omega
     rw[e3]
     exact(hin.le l2).push (hnx.le l2)
 . simp only[decide_eq_false_iff_not]at hge
   intro b V3 l3 hb
   refine⟨_,rfl,?_⟩
   have e:n=(zs.length+1-a.toNat) / 2:=by omega
   unfold B02
   rw[<-e]
   exact f0b hlo hb (hin.le l3) (by simp)
theorem z07:∀(m:Nat) {V:View} {p w:Sl} {zs ws:List Cq} (S T:Nat),m<=6->zs.length=2^m->ws.length=2^m->X08 V p zs->X08 V w ws ->
 (∀i,i<2^m->(nth zs i).sz<=S)->(∀i,i<2^m->(nth ws i).sz<=T)->2^m*(S+T+2)<=2^39 ->
 m0b prog k0c #[p.v,w.v] M0x V λn cap l rest V'=>n=(o05 m zs ws).length/\cap=n/\rest=[]/\x08 V' l (o05 m zs ws)
 | m,V,p,w,zs,ws,S,T,hm,hz,hw,hp,hq,hS,hT,hsz=>by
   have hpl:=hp.len
   have hwl:=hq.len
   have hpow:2^m<=64:=Nat.pow_le_pow_right (n:=2) (by omega) hm
   have hpos:0<2^m:=Nat.pow_pos (by omega)
   rw[C06]
   refine E0b p w V _ (λc x V'=>∃m' zs' ws',m=m'+1/\zs'=o05 m' (B02 zs 0) (B02 ws 0)/\ws'=o05 m' (B02 zs 1) (B02 ws 0) /\
    X08 V' c.t8 zs'/\X08 V' c.t9 ws'/\0<=x.t36/\x.t36<=(2^m':Nat) /\
    x08 V' x.o15 (P0e (2^m') x.t36.toNat (λi=>nth zs' i+nth ws' i*nth ws i) (λi=>nth zs' i-nth ws' i*nth ws i)))
    (λ_ x _=>2^m-x.t36.toNat) ⟨⟨by omega,by omega,by omega,by omega⟩,λh1 => ?_,λh1 => ?_⟩
   . have h1:p.len=1:=by have:(p.len:Int)=1:=(by simpa using h1); omega
     have hm0:m=0:=by
      rcases Nat.eq_zero_or_pos m with h|h
      . exact h
      . have:2^1<=2^m:=Nat.pow_le_pow_right (by omega) h
        omega
     subst hm0
     obtain⟨hb,x,hx,hs,hnx⟩:=hp.get (t:=0) (by omega) (by simp[hz])
     have hset:=(x08.zeros V 1).set (i:=0) (by simp) hnx
     refine⟨hb,x,hx,hs,⟨by omega,by omega⟩,?_,?_,?_⟩
     . simp[h1]
     . refine⟨by simp[h1],?_⟩
       intro e
       have h5:=y01.length hset
       simp only[h1]at e
       have h6:(0:Nat)=5:=(congrArg List.length e).symm.trans h5
       omega
     . refine⟨by simp[h1],rfl,rfl,?_⟩
       simp only[h1]
       exact hset
   . have h1:p.len≠1:=by intro e; simp[e]at h1
     obtain ⟨m', rfl⟩ : ∃ m', m = m' + 1 := ⟨m - 1, by rcases Nat.eq_zero_or_pos m with h | h; · subst h; simp at hz; omega
                                                       . omega⟩
     have hp2:2^(m'+1)=2*2^m':=by rw[Nat.pow_succ]; omega
     have hmul:2^(m'+1)*(S+T+2)=2*(2^m'*(S+T+2)):=by rw[hp2,Nat.mul_assoc]
     have bz:∀a,a<=1->∀i,i<2^m'->(nth (B02 zs a) i).sz<=S:=by
      intro a ha i hi; rw[l0g (by omega)]; exact hS _ (by omega)
     have bw:∀i,i<2^m'->(nth (B02 ws 0) i).sz<=T:=by
      intro i hi; rw[l0g (by omega)]; exact hT _ (by omega)
     refine(L07 hq (Int.le_refl 0) (by omega) (by omega) (by omega)).mono λv V1 l1 ⟨r1,hv,hr1⟩=>⟨r1,hv,?_⟩
     refine(L07 (hp.le l1) (Int.le_refl 0) (by omega) (by omega) (by omega)).mono λv V2 l2 ⟨r2,hv,hr2⟩=>⟨r2,hv,?_⟩
     have ne:∀zs ws,o05 m' zs ws≠[]:=by
      intro zs ws e
      have:=C06 m' zs ws
      rw[e]at this; simp at this
      have:0<2^m':=Nat.pow_pos (by omega)
      omega
     refine(J0j (ne _ _) (z07 m' S T (by omega) (by simp[U04]; omega) (by simp[U04]; omega) hr2 (hr1.le l2) (bz 0 (by omega)) bw (by omega))).mono λv V3 l3 ⟨r3,hv,hr3⟩=>⟨r3,hv,?_⟩
     refine(L07 (hp.le (View.le_trans l1 (View.le_trans l2 l3))) (a:=1) (by omega) (by omega) (by omega) (by omega)).mono λv V4 l4 ⟨r4,hv,hr4⟩=>⟨r4,hv,?_⟩
     refine(J0j (ne _ _) (z07 m' S T (by omega) (by simp[U04]; omega) (by simp[U04]; omega) hr4 (hr1.le (View.le_trans l2 (View.le_trans l3 l4))) (bz 1 (by omega)) bw (by omega))).mono λv V5 l5 ⟨r5,hv,hr5⟩=>⟨r5,hv,?_⟩
     have le5:View.le V V5:=View.le_trans l1 (View.le_trans l2 (View.le_trans l3 (View.le_trans l4 l5)))
     have hdiv:i64.wrap (Int.tdiv (p.len:Int) 2)=((2^m':Nat):Int):=by
      have e:Int.tdiv (p.len:Int) 2=((2^m':Nat):Int):=by
       rw[Int.tdiv_eq_ediv_of_nonneg (by omega)]; omega
      rw[e]; exact i64w (by omega) (by omega)
     rw[hdiv]
     refine⟨⟨m',_,_,rfl,rfl,rfl,hr3.le (View.le_trans l4 l5),hr5,Int.le_refl 0,Int.natCast_nonneg _,?_⟩,?_⟩
     . simp only[Int.toNat_zero,g0v,Int.toNat_natCast,hpl,hz,hp2]
       exact x08.zeros _ _
     rintro⟨t,o⟩ V6 l6 ⟨m2,zs',ws',em,rfl,rfl,h8,h9,h0,h1',hin⟩
     have em:m'=m2:=by omega
     subst em
     simp only at h8 h9 h0 h1' hin ⊢
     have lz:=C06 m' (B02 zs 0) (B02 ws 0)
     have lw:=C06 m' (B02 zs 1) (B02 ws 0)
     have l8:=h8.len
     have l9:=h9.len
     have lo:∀k a b,(P0e (2^m') k a b).length=2*2^m':=by intro k a b; simp[P0e]
     refine⟨λhlt => ?_,λhge => ?_⟩
     . simp only[decide_eq_true_eq]at hlt
       have hk:t.toNat<2^m':=by omega
       obtain⟨hb4,x4,hx4,hs4,hn4⟩:=h9.get h0 (by omega)
       obtain⟨hb5,x5,hx5,hs5,hn5⟩:=(hq.le (View.le_trans le5 l6)).get h0 (by omega)
       have sE:=Z0l m' (B02 zs 0) (B02 ws 0) S T (by simp[U04]; omega) (by simp[U04]; omega) (bz 0 (by omega)) bw t.toNat hk
       have sO:=Z0l m' (B02 zs 1) (B02 ws 0) S T (by simp[U04]; omega) (by simp[U04]; omega) (bz 1 (by omega)) bw t.toNat hk
       have sW:=hT t.toNat (by omega)
       have hm2:S+T+2<=2^m'*(S+T+2):=Nat.le_mul_of_pos_left _ (Nat.pow_pos (by omega))
       have sU:=a0j (nth (o05 m' (B02 zs 1) (B02 ws 0)) t.toNat) (nth ws t.toNat)
       refine⟨hb4,x4,hx4,hs4,hb5,x5,hx5,hs5,(l0k hn4 hn5 (by omega) (by omega)).mono λv V7 l7 ⟨r6,hv,hr6⟩=>⟨r6,hv,?_⟩⟩
       obtain⟨hb6,x6,hx6,hs6,hn6⟩:=(h8.le l7).get h0 (by omega)
       refine⟨hb6,x6,hx6,hs6,hb6,x6,hx6,hs6,(J0f hn6 hr6 (by omega) (by omega)).mono λv V8 l8' ⟨r7,hv,hr7⟩=>⟨r7,hv,?_⟩⟩
       refine(f0t (hn6.le l8') (hr6.le l8') (by omega) (by omega)).mono λv V9 l9' ⟨r8,hv,hr8⟩=>⟨r8,hv,⟨h0,?_⟩,?_,?_⟩
       . omega
       . exact y01.room hin (by rw[lo]; omega)
       have ek:i64.wrap (t+((2^m':Nat):Int))=t+((2^m':Nat):Int):=i64w (by omega) (by omega)
       have ek2:Int.toNat (t+((2^m':Nat):Int))=t.toNat+2^m':=by omega
       have et:i64.wrap (t+1)=t+1:=i64w (by omega) (by omega)
       have et2:(t+1).toNat=t.toNat+1:=by omega
       rw[ek,ek2]
       have in9:=hin.le (View.le_trans l7 (View.le_trans l8' l9'))
       have s1:=in9.set (i:=t.toNat) (by rw[lo]; omega) (hr7.le l9')
       have s2:=s1.set (i:=t.toNat+2^m') (by rw[List.length_set,lo]; omega) hr8
       refine⟨⟨by omega,by omega⟩,?_,⟨m',_,_,rfl,rfl,rfl,h8.le (View.le_trans l7 (View.le_trans l8' l9')),h9.le (View.le_trans l7 (View.le_trans l8' l9')),by rw[et]; omega,by rw[et]; omega,?_⟩,by simp only[et,et2]; omega⟩
       . exact y01.room s1 (by rw[List.length_set,lo]; omega)
       . simp only[et,et2]
         rw[<-C0y hk]
         exact s2
     . simp only[decide_eq_false_iff_not]at hge
       have e:t.toNat=2^m':=by omega
       rw[e]at hin
       have e2:P0e (2^m') (2^m') (λi=>nth (o05 m' (B02 zs 0) (B02 ws 0)) i+nth (o05 m' (B02 zs 1) (B02 ws 0)) i*nth ws i)
        (λi=>nth (o05 m' (B02 zs 0) (B02 ws 0)) i-nth (o05 m' (B02 zs 1) (B02 ws 0)) i*nth ws i)=o05 (m'+1) zs ws:=by
        have h2:=Y0l (o05 (m'+1) zs ws)
        rw[C06]at h2
        rw[<-h2]
        unfold P0e
        rw[<-hp2]
        apply List.map_congr_left
        intro i hi
        have hi:i<2^(m'+1):=by simpa using hi
        rw[o05,f0v hi]
        split
        . rfl
        . rw[if_pos (by omega)]
       rw[e2]at hin
       refine⟨⟨by omega,?_⟩,by omega,by simp,by simp,hin⟩
       intro eo
       subst eo
       have:=y01.length hin
       rw[C06]at this
       simp at this; omega
end Go.Proofs.YtjadnpidefnpoaaGreat
namespace Go.Proofs.YtjadnpidefnpoaaGreat
open Go Go.Vc Go.Proofs Go.ChangeShapes Go.RowKit
structure F15 (P:Program) (t:TypeId):Prop where
 fields:∃f0 f1 f2:Field,P.underlying t=some (.struct #[f0,f1,f2])/\(f0.offset=0/\f1.offset=1/\f2.offset=2) /\
  (P.underlying f0.type=some (.int .i64)/\P.underlying f1.type=some (.int .i64)/\P.underlying f2.type=some (.int .i64))/\(P.cellsOf f0.type=1/\P.cellsOf f1.type=1/\P.cellsOf f2.type=1)
 cells:P.cellsOf t=3
section
variable {H:Type} {enc:TypeId×Value->H} {P:Program} {w:World} {base:Nat} {spare:Nat->Bool} {held:Bool}
theorem F13{t:TypeId}{fuel:Nat}{cs:List Value}{x:DataW H×List MemPlace}(ht:F15 P t)(h:DataW.trod enc P w base spare held fuel t cs=some x):∃r:RatV,ratI r/\cs=r.val.cells.toList:=by
 obtain⟨f0,f1,f2,hR,⟨o0,o1,o2⟩,⟨i0,i1,i2⟩,c0,c1,c2⟩:=ht.fields
 obtain⟨xs,n,_,_,hl,hxs,hf⟩:=DataW.trod_struct hR h
 rw[ht.cells]at hl
 match cs,hl with
 | [a,b,c],_ =>
   have g0:=hf 0 f0 rfl
   have g1:=hf 1 f1 rfl
   have g2:=hf 2 f2 rfl
   rw[o0,c0]at g0
   rw[o1,c1]at g1
   rw[o2,c2]at g2
   have hs:xs.length=3:=hxs
   match xs,hs with
   | [y0, y1, y2], _ =>
     obtain⟨n0,e0,_,w0⟩:=DataW.trod_int i0 g0
     obtain⟨n1,e1,_,w1⟩:=DataW.trod_int i1 g1
     obtain⟨n2,e2,_,w2⟩:=DataW.trod_int i2 g2
     simp at e0 e1 e2
     subst e0; subst e1; subst e2
     exact⟨⟨n0,n1,n2⟩,⟨bounds_i64 w0,bounds_i64 w1,bounds_i64 w2⟩,rfl⟩
end
theorem a00.fits{P:Program}{f:FuncId}{args:Array Value}{r:Value}{V:View}(h:a00 P f args V λv _=>v=r){w:World}(hw:V.In w) :
 Calls P f args w λe w'=>e = .returned r/\Below w.heap.size w w' :=
 (h w hw).mono λ_ _ ⟨_,_,he,_,_,_,hb,hr⟩=>⟨by rw[he,hr],hb⟩
theorem E0i{H:Type}{enc:TypeId×Value->H}{P:Program}(hl:laidOutB P=true){W W':World}(hb:Below W.heap.size W W') :
 ∀ {ts:List TypeId} {vs:List Value} {ds:List (DataW H)} {ps:List MemPlace},(∀t∈ts,P.readableRec t=true/\t<P.types.size)->(∀p∈ps,p.block<W.heap.size) ->
 DataW.TrodAll enc P W 0 (λ_=>true) true ts vs ds ps->DataW.TrodAll enc P W' 0 (λb=>decide (b<W.heap.size)) true ts vs ds ps
 | [],[],[],_,_,_,h=>h
 | t::ts,v::vs,d::ds,ps,ht,hlt,⟨p,q,h1,h2,e⟩=>by
   subst e
   exact⟨p,q,Below.trod hl (ht t (by simp)).1 (ht t (by simp)).2 h1 hb (λx hx=>hlt x (by simp[hx])),
    E0i hl hb (λt' ht'=>ht t' (by simp[ht'])) (λx hx=>hlt x (by simp[hx])) h2,rfl⟩
 | [],[],_::_,_,_,_,h=>h.elim
 | [],_::_,_,_,_,_,h=>h.elim
 | _::_,[],_,_,_,_,h=>h.elim
 | _::_,_::_,[],_,_,_,h=>h.elim
theorem i0t{H:Type}{enc:TypeId×Value->H}{P:Program}{f:Func}{s:ChangeSpec}{apart fresh handsOn:Bool}{W W':World}{args:Array Value}{v:Value}{ds:List (DataW H)}{before:List MemPlace}
 (hl:laidOutB P=true) (ht:∀t∈f.params.toList,P.readableRec t=true/\t<P.types.size)
 (hW:DataW.Whole enc P f.params.toList s.vars apart W args.toList ds [] before) (hA:DataW.TrodAll enc P W 0 (λ_=>true) true f.params.toList args.toList ds before)
 (hres:∀(b:Nat) (sp:Nat->Bool) (hd:Bool),DataW.TrodAll enc P W' b sp hd f.resultTypes.toList (v.resultList f.resultTypes.size) (s.fn H (ds++[])).results [])
 (hargs:(s.fn H (ds++[])).args=ds) (hvars:∀sp:Nat->Bool,DataW.TrodVars enc P W' sp s.vars (s.fn H (ds++[])).vars []) (hb:Below W.heap.size W W'):s.post enc P f apart fresh handsOn false W args v W':=by
 refine⟨ds,[],before,[],before,[],hW,hres _ _ _,?_,hvars _,World.keptBut_mono (λp hp=>⟨hp,.inr (.inl hp)⟩) (hb.frame (·∈before)),λh=>Bool.noConfusion h⟩
 rw[hargs]
 exact E0i hl hb ht (λp hp=>hW.lt p hp) hA
inductive FK where
 | int (k:IntKind)
 | bool
def FK.ok:FK->Value->Prop
 | .int k,v=>∃n,v = .int k n/\(Lit.int k n).wf=true
 | .bool,v=>∃b,v = .bool b
def n0m:List FK->List Value->Prop
 | [],[]=>True
 | f::fs,v::vs=>f.ok v/\n0m fs vs
 | _,_=>False
theorem n0m.append:∀ {l l':List FK} {v v':List Value},n0m l v->n0m l' v'->n0m (l++l') (v++v')
 | [],_,[],_,_,h=>h
 | _::_,_,_::_,_,⟨h1,h2⟩,h=>⟨h1,n0m.append h2 h⟩
 | [],_,_::_,_,h,_=>h.elim
 | _::_,_,[],_,h,_=>h.elim
def j0t(P:Program)(F:TypeId->Option (List FK)):List Field->Nat->Option (List FK)
 | [],_=>some []
 | f::fs,off=>match F f.type,j0t P F fs (off+P.cellsOf f.type)with
   | some l,some r=>if f.offset=off/\l.length=P.cellsOf f.type then some (l++r)else none
   | _,_=>none
def k0t(P:Program):Nat->TypeId->Option (List FK)
 | 0,_=>none
 | d+1,t=>match P.underlying t with
   | some (.int k)=>some [.int k]
   | some .bool=>some [.bool]
   | some (.struct fs) => match j0t P (k0t P d) fs.toList 0 with
     | some l=>if l.length=P.cellsOf t then some l else none
     | none=>none
   | some (.array n e) => match k0t P d e with
     | some l=>if l.length=P.cellsOf e/\n*l.length=P.cellsOf t then some (List.replicate n l).flatten else none
     | none=>none
   | _=>none
section
variable {H:Type} {enc:TypeId×Value->H} {P:Program} {w:World} {base:Nat} {spare:Nat->Bool} {held:Bool}
theorem o0m{F:TypeId->Option (List FK)}{n:Nat}(hF:∀t l cs x,F t=some l->DataW.trod enc P w base spare held n t cs=some x->n0m l cs){cs:List Value}{xs:List (DataW H×List MemPlace)}{all:List Field}(hxs:xs.length=all.length)
 (hf:∀(i:Nat) (f:Field),all[i]?=some f->DataW.trod enc P w base spare held n f.type ((cs.drop f.offset).take (P.cellsOf f.type))=xs[i]?) :
 ∀(fs pre:List Field) (off:Nat) (l:List FK),all=pre++fs->j0t P F fs off=some l->cs.length=off+l.length->n0m l (cs.drop off)
 | [],pre,off,l,he,h,hl=>by
   simp only[j0t,Option.some.injEq]at h
   subst h
   rw[List.drop_eq_nil_of_le (by simp at hl; omega)]; trivial
 | f::fs,pre,off,l,he,h,hl=>by
   simp only[j0t]at h
   split at h
   . rename_i l1 r h1 h2
     split at h
     . rename_i hc
       obtain⟨rfl,hlen⟩:=hc
       simp only[Option.some.injEq]at h
       subst h
       have hi:all[pre.length]?=some f:=by rw[he]; simp
       have g:=hf _ f hi
       have hx:pre.length<xs.length:=by rw[hxs,he]; simp
       rw[List.getElem?_eq_getElem hx]at g
       have a1:=hF _ _ _ _ h1 g
       have a2:=o0m hF hxs hf fs (pre++[f]) (f.offset+P.cellsOf f.type) r (by rw[he]; simp) h2 (by rw[List.length_append]at hl; omega)
       have e:cs.drop f.offset=(cs.drop f.offset).take (P.cellsOf f.type)++cs.drop (f.offset+P.cellsOf f.type):=by
        rw[<-List.drop_drop,List.take_append_drop]
       rw[e]; exact a1.append a2
     . simp at h
   . simp at h
theorem w0j:∀(d:Nat) (fuel:Nat) (t:TypeId) (l:List FK) (cs:List Value) (x:DataW H×List MemPlace),k0t P d t=some l->DataW.trod enc P w base spare held fuel t cs=some x->n0m l cs
 | 0,_,_,_,_,_,h,_=>by simp[k0t]at h
 | d+1,fuel,t,l,cs,x,h,hx=>by
   simp only[k0t]at h
   split at h
   . rename_i k hu
     obtain⟨n,rfl,_,hw⟩:=DataW.trod_int hu hx
     simp only[Option.some.injEq]at h
     subst h
     exact⟨⟨n,rfl,hw⟩,trivial⟩
   . rename_i hu
     obtain⟨b,rfl,_⟩:=DataW.trod_bool hu hx
     simp only[Option.some.injEq]at h
     subst h
     exact⟨⟨b,rfl⟩,trivial⟩
   . rename_i fs hu
     obtain⟨xs,n,rfl,_,hl,hxs,hf⟩:=DataW.trod_struct hu hx
     split at h
     . rename_i l1 h1
       split at h
       . rename_i hc
         simp only[Option.some.injEq]at h
         subst h
         have:=o0m (F:=k0t P d) (λt l cs x h1 h2=>w0j d n t l cs x h1 h2) (all:=fs.toList) (by simpa using hxs) (λi f hi=>hf i f (by simpa using hi)) fs.toList [] 0 l1 rfl h1 (by omega)
         simpa using this
       . simp at h
     . simp at h
   . rename_i n e hu
     obtain⟨xs,m,rfl,_,hl,hxs,hf⟩:=DataW.trod_array hu hx
     split at h
     . rename_i l1 h1
       split at h
       . rename_i hc
         obtain⟨c1,c2⟩:=hc
         simp only[Option.some.injEq]at h
         subst h
         have key:∀j,j<=n->n0m (List.replicate j l1).flatten (cs.take (j*P.cellsOf e)):=by
          intro j
          induction j with
          | zero=>intro _; simp; trivial
          | succ j ih =>
            intro hj
            have a1:=ih (by omega)
            have g:=hf j (by omega)
            rw[List.getElem?_eq_getElem (by omega:j<xs.length)]at g
            have a2:=w0j d m e l1 _ _ h1 g
            have e1:cs.take ((j+1)*P.cellsOf e)=cs.take (j*P.cellsOf e)++(cs.drop (j*P.cellsOf e)).take (P.cellsOf e):=by
             rw[Nat.add_mul,Nat.one_mul,List.take_add]
            have e2:(List.replicate (j+1) l1).flatten=(List.replicate j l1).flatten++l1:=by
             rw[List.replicate_succ']; simp
            rw[e1,e2]; exact a1.append a2
         have:=key n (Nat.le_refl _)
         rw[List.take_of_length_le (by rw[hl,<-c2,c1]; exact Nat.le_refl _)]at this
         exact this
       . simp at h
     . simp at h
   . simp at h
theorem p11{t:TypeId}{v:Value}{dd:DataW H}{ps:List MemPlace}{l:List FK}(hk:k0t P 8 t=some l)(h:DataW.Trod enc P w base spare held t v dd ps):n0m l v.cells.toList:=by
 obtain⟨fuel,h⟩:=h
 exact w0j 8 fuel t l _ _ hk h
end
theorem l0t{v:Value}{l:List Value}(h:v.cells.toList=l)(hl:l.length≠1):v = .agg l.toArray:=by
 cases v with
 | agg cs => have : cs.toList = l := h
             rw[<-this]
 | _=>exact absurd (by rw[<-h]; rfl) hl
theorem q11{H:Type}{enc:TypeId×Value->H}{P:Program}{w:World}{base:Nat}{spare:Nat->Bool}{held:Bool}{t:TypeId}{v:Value}{dd:DataW H}{ps:List MemPlace}(hk:k0t P 8 t=some [.int .i64,.int .i64])
 (h:DataW.Trod enc P w base spare held t v dd ps):∃g:j02,v=g.val:=by
 have h:=p11 hk h
 cases hc:v.cells.toList with
 | nil=>rw[hc]at h; exact h.elim
 | cons a r =>
   cases r with
   | nil=>rw[hc]at h; exact h.2.elim
   | cons b r =>
     cases r with
     | nil =>
       rw[hc]at h
       obtain⟨⟨n,rfl,_⟩,⟨m,rfl,_⟩,_⟩:=h
       exact⟨⟨n,m⟩,l0t hc (by simp)⟩
     | cons _ _=>rw[hc]at h; exact h.2.2.elim
def a09(w:World):View:=λb=>match w.heap[b]? with|some (.cells cs _ _)=>some cs|_=>none
theorem m0t(w:World):(a09 w).In w:=by
 intro i cs hi
 unfold a09 at hi
 split at hi
 . rename_i cs' T fr hw
   simp at hi; subst hi
   exact⟨T,fr,hw⟩
 . simp at hi
theorem U0n{w:World}{p:Addr}{v:Value}(h:w.cell? p=some v):(a09 w).load (some p)=some v:=by
 unfold World.cell? at h
 unfold View.load a09
 split at h
 . rename_i c T fr hw
   simp only[hw]
   split at h
   . simp at h
   . rename_i hs
     simp only[hs]
     simpa using h
 . simp at h
section
variable {H:Type} {enc:TypeId×Value->H} {P:Program} {w:World} {base:Nat} {spare:Nat->Bool} {held:Bool}
theorem s11{α:Type}{sz:Nat}{t e:TypeId}(ht:P.underlying t=some (.slice e))(hc:P.cellsOf e=sz)(ok:α->Prop)(E:View->List Value->α->Prop)
 (he:∀ {fuel:Nat} {cs:List Value} {x:DataW H×List MemPlace},DataW.trod enc P w base spare held fuel e cs=some x->∃z,ok z/\E (a09 w) cs z)
 {fuel:Nat} {cs:List Value} {x:DataW H×List MemPlace} (h:DataW.trod enc P w base spare held fuel t cs=some x) :
 ∃(s:Sl) (zs:List α),cs=[s.v]/\l01 sz E (a09 w) s zs/\zs.length<=maxLen/\∀z∈zs,ok z:=by
 rcases Go.Deep.open_slice ht h with⟨h1,_⟩|⟨a,l0,c0,m,n,D,Pl,h1,_,hl,hm,hmm,_,hx⟩
 . subst h1
   exact⟨Sl.mk none 0 0,[],rfl,l01.nil,Nat.zero_le _,by intro r hr; simp at hr⟩
 . subst h1
   have hlm:l0<=m:=by rw[hmm]; split<;>omega
   have key:∀k,k<=l0->∃(rs:List α) (o:List Value),rs.length=k/\(∀r∈rs,ok r)/\y01 sz E (a09 w) o rs/\(a09 w).has (some a) o:=by
    intro k
    induction k with
    | zero=>intro _; exact⟨[],[],rfl,by intro r hr; simp at hr,rfl,by intro j v hj; simp at hj⟩
    | succ k ih =>
      intro hk
      obtain⟨rs,o,hrl,hri,hcs,ho⟩:=ih (by omega)
      obtain⟨cs',g1,g2⟩:=hx k (by omega)
      obtain⟨r,hr,er⟩:=he g2
      rw[hc]at g1
      obtain⟨_,hcl,hcell⟩:=World.cells?_some g1
      have hol:=hcs.length
      refine⟨rs++[r],o++cs',by simp[hrl],?_,hcs.append (y01.one hcl er),?_⟩
      . intro x hx
        rcases List.mem_append.1 hx with h|h
        . exact hri x h
        . simp at h; subst h; exact hr
      . intro j v hj
        by_cases hjo:j<o.length
        . rw[List.getElem?_append_left hjo]at hj
          exact ho j v hj
        . rw[List.getElem?_append_right (by omega)]at hj
          have hj3:j-o.length<sz:=by
           rcases Nat.lt_or_ge (j-o.length) cs'.length with h|h
           . omega
           . rw[List.getElem?_eq_none h]at hj; simp at hj
          have hcj:=hcell (j-o.length) hj3
          rw[hj,y0i]at hcj
          have e:k*sz+(j-o.length)=j:=by rw[hol,hrl]; rw[hol,hrl]at hjo; omega
          rw[e]at hcj
          exact U0n hcj
   obtain⟨rs,o,hrl,hri,hcs,ho⟩:=key l0 (Nat.le_refl _)
   exact⟨Sl.mk (some a) l0 c0,rs,rfl,⟨hrl.symm,hl,λ_=>rfl,o,ho,hcs⟩,by omega,hri⟩
theorem n0t{v x:Value}(h:v.cells.toList=[x])(hv:∃a l c,v = .slice a l c):v=x:=by
 obtain⟨a,l,c,rfl⟩:=hv
 simpa [Value.cells]using h
theorem b0p{t e:TypeId}{v:Value}{d:DataW H}{ps:List MemPlace}(ht:P.underlying t=some (.slice e))(he:F15 P e)(hv:∃a l c,v = .slice a l c)(h:DataW.Trod enc P w base spare held t v d ps) :
 ∃(s:Sl) (rs:List RatV),v=s.v/\Z0d (a09 w) s rs/\rs.length<=maxLen/\∀r∈rs,ratI r:=by
 obtain⟨fuel,h⟩:=h
 obtain⟨s,zs,e1,h1,h2,h3⟩:=s11 ht he.cells ratI ratC (λg=>F13 he g) h
 exact⟨s,zs,n0t e1 hv,h1,h2,h3⟩
end
end Go.Proofs.YtjadnpidefnpoaaGreat
namespace Go.Proofs.YtjadnpidefnpoaaGreat
open Go Go.Vc Go.Proofs
open Go.Proofs.Tryz (prog)
open Go.IntKind (i64 u64 u32 u8)
theorem fd32(z:Nat):Int.fdiv (z:Int) (2^(min (Int.toNat 32) (u64.bits)))=((z / 4294967296:Nat):Int):=by
 have e2:(2:Int)^(min (Int.toNat 32) (u64.bits))=4294967296:=by decide
 rw[e2,Int.fdiv_eq_ediv_of_nonneg _ (by omega)]; omega
theorem fd63(z:Nat):Int.fdiv (z:Int) (2^(min (Int.toNat 63) (u64.bits)))=((z / 9223372036854775808:Nat):Int):=by
 have e2:(2:Int)^(min (Int.toNat 63) (u64.bits))=9223372036854775808:=by decide
 rw[e2,Int.fdiv_eq_ediv_of_nonneg _ (by omega)]; omega
theorem u32n(z:Nat):u32.wrap (z:Int)=((z%4294967296:Nat):Int):=by rw[u32m]; omega
theorem u64n{z:Nat}(h:z<18446744073709551616):u64.wrap (z:Int)=(z:Int):=u64w (by omega) (by omega)
theorem u11(c:Prop) [Decidable c](a:Option Addr):(if c then a else Option.map (λq=>Addr.add q (Int.toNat 0*1)) a)=a:=by
 have e:(λq:Addr=>Addr.add q (Int.toNat 0*1))=id:=by funext q; simp[Addr.add]
 rw[e]; simp
theorem W04{V:View}{s:Sl}{l:List Nat}(h:Y01 V s l)(hs:l.length<=2^50) :
 a00 prog x0u #[s.v] V λv V'=>∃r:Sl,v=r.v/\L00 V' r (wval l):=by
 have hlen:=h.len
 refine u0s s V _ (λ_ x _=>0<=x.t3/\x.t3<=s.len/\∀d∈l.drop x.t3.toNat,d=0) (λ_ x _=>x.t3.toNat) ⟨⟨Int.natCast_nonneg _,Int.le_refl _,?_⟩,?_⟩
 . intro d hd
   simp only[Int.toNat_natCast,hlen,List.drop_length]at hd
   simp at hd
 rintro⟨t⟩ V1 hle ⟨h0,h1,h2⟩
 simp only at h0 h1 h2 ⊢
 have hcap:=h.cap
 have out:t=0\/l.getD (t.toNat-1) 0≠0->L00 V1 (Sl.mk (if s.cap=Int.toNat 0 then s.a else Option.map (λq=>Addr.add q (Int.toNat 0*1)) s.a) (Int.toNat t-Int.toNat 0) (s.cap-Int.toNat 0)) (wval l):=by
  intro hz
  have hw:wval l=wval (l.take t.toNat):=by
   rw[p0i l t.toNat,a0k h2]; omega
  rw[hw,u11]
  refine L0t ⟨?_,?_,?_,h.wb.take _⟩ ?_
  . intro i d hi
    have hi':i<t.toNat:=by
     rcases Nat.lt_or_ge i t.toNat with h|h
     . exact h
     . rw[List.getElem?_eq_none (by simp; omega)]at hi; simp at hi
    rw[List.getElem?_take_of_lt hi']at hi
    exact H01 hle (h.load i d hi)
  . simp; omega
  . simp only[Int.toNat_zero]; omega
  . intro d hd
    rcases hz with rfl|hz
    . simp at hd
    . have h3:t.toNat≠0:=by
        intro e; rw[e]at hd; simp at hd
      rw[List.getLast?_eq_getElem?]at hd
      have h4:(l.take t.toNat).length=t.toNat:=by simp; omega
      rw[h4,List.getElem?_take_of_lt (by omega)]at hd
      simp only[List.getD,hd,Option.getD_some]at hz
      exact hz
 refine⟨λhp => ?_,λhp=>⟨by simp,λ_=>⟨⟨by omega,by omega,by omega⟩,_,rfl,out (.inl ?_)⟩⟩⟩
 . simp only[decide_eq_true_eq]at hp
   rw[i64w (by omega) (by omega)]
   refine⟨⟨by omega,by omega,h.isSome (by omega)⟩,_,(h.le hle).get (by omega) (by omega),λhz => ?_,λhz=>⟨⟨by omega,by omega,by omega⟩,_,rfl,out (.inr ?_)⟩⟩
   . simp only[beq_iff_eq]at hz
     refine⟨⟨by omega,by omega,λd hd => ?_⟩,by omega⟩
     have hlt:(t-1).toNat<l.length:=by omega
     rw[List.drop_eq_getElem_cons hlt]at hd
     rcases List.mem_cons.1 hd with rfl|hd
     . simp only[List.getD,List.getElem?_eq_getElem hlt,Option.getD_some]at hz; omega
     . exact h2 d (by rw[show(t-1).toNat+1=t.toNat by omega]at hd; exact hd)
   . simp only[beq_eq_false_iff_ne,ne_eq]at hz
     rw[show t.toNat-1=(t-1).toNat by omega]
     intro e; rw[e]at hz; exact hz rfl
 . simp only[decide_eq_false_iff_not]at hp; omega
theorem A07{V:View}{n:Int}(h0:0<=n)(h1:n<=18446744073709551615) :
 a00 prog f0s #[.int .u64 n] V λv V'=>∃r:Sl,v=r.v/\L00 V' r n.toNat:=by
 refine f0q n V _ λb V1 hle _ hb => ?_
 obtain⟨m,rfl⟩:∃m:Nat,n=m:=⟨n.toNat,by omega⟩
 rw[fd32,u32n,u32n,Nat.mod_eq_of_lt (show m / 4294967296<4294967296 by omega)]at hb
 have hw:Y01 V1 (Sl.mk (some (Addr.mk b 0 none)) 2 2) [m%4294967296,m / 4294967296] :=
  Y01.of_block (by rw[hb]; rfl) rfl (by omega) (by intro d hd; simp at hd; omega)
 refine(W04 hw (by simp)).mono λv V' _ ⟨r,hv,hr⟩=>⟨r,hv,_,rfl,?_⟩
 have:wval [m%4294967296,m / 4294967296]=(m:Int).toNat:=by simp[wval]; omega
 rw[this]at hr; exact hr
theorem Q0e{V:View}{s t:Sl}{a b:Nat}(hs:L00 V s a)(ht:L00 V t b)(hb:wn a<=2^50) :
 a00 prog Q0p #[s.v,t.v] V λv _=>v = .int .i64 (if a<b then -1 else if a=b then 0 else 1):=by
 have h1:=hs.len
 have h2:=ht.len
 simp only[wn]at hb
 refine E0n s t V _ (λ_ x _ => -1<=x.t5/\x.t5<s.len/\(dig a).drop (x.t5+1).toNat=(dig b).drop (x.t5+1).toNat) (λ_ x _=>(x.t5+1).toNat) ⟨λhne=>⟨λhlt => ?_,λhlt => ?_⟩,λhe=>⟨?_,?_⟩⟩
 . have:=o0g (a:=a) (b:=b) (by simpa [h1,h2]using hlt)
   simp[this]
 . have hne:¬(s.len:Int)=t.len:=by simpa using hne
   have hlt:¬s.len<t.len:=by simpa using hlt
   have:=o0g (a:=b) (b:=a) (by omega)
   rw[if_neg (by omega),if_neg (by omega)]
 . have he:(s.len:Int)=t.len:=by simpa using he
   rw[i64w (by omega) (by omega)]
   refine⟨?_,?_,?_⟩
   . show(-1:Int)<=s.len-1; omega
   . show(s.len:Int)-1<s.len; omega
   . rw[List.drop_eq_nil_of_le,List.drop_eq_nil_of_le]<;>simp<;>omega
 . have he:(s.len:Int)=t.len:=by simpa using he
   rintro⟨i⟩ V1 hle ⟨i0,i1,hd⟩
   simp only at i0 i1 hd ⊢
   refine⟨λhp => ?_,λhp => ?_⟩
   . simp only[ge_iff_le,decide_eq_true_eq]at hp
     refine⟨⟨by omega,by omega,hs.isSome (by omega)⟩,_,(hs.le hle).get (by omega) (by omega),⟨by omega,by omega,ht.isSome (by omega)⟩,_,(ht.le hle).get (by omega) (by omega),λhne =>
      ⟨⟨by omega,by omega,hs.isSome (by omega)⟩,_,(hs.le hle).get (by omega) (by omega),⟨by omega,by omega,ht.isSome (by omega)⟩,_,(ht.le hle).get (by omega) (by omega),λhlt => ?_,λhge => ?_⟩,λheq => ?_⟩
     . have hlt:(dig a).getD i.toNat 0<(dig b).getD i.toNat 0:=by simpa using hlt
       have:=p0g (b05 a) (by omega) (i:=i.toNat) (by omega) (by rw[show i.toNat+1=(i+1).toNat by omega]; exact hd) hlt
       rw[F01,F01]at this
       simp[this]
     . have hne:¬(dig a).getD i.toNat 0=(dig b).getD i.toNat 0:=by
         intro e; rw[e]at hne; simp at hne
       have hge:¬(dig a).getD i.toNat 0<(dig b).getD i.toNat 0:=by simpa using hge
       have:=p0g (b05 b) (by omega) (i:=i.toNat) (by omega) (by rw[show i.toNat+1=(i+1).toNat by omega]; exact hd.symm) (by omega:(dig b).getD i.toNat 0<(dig a).getD i.toNat 0)
       rw[F01,F01]at this
       rw[if_neg (by omega),if_neg (by omega)]
     . have heq:(((dig a).getD i.toNat 0:Nat):Int)=(((dig b).getD i.toNat 0:Nat):Int):=by simpa using heq
       rw[i64w (by omega) (by omega)]
       refine⟨⟨by show(-1:Int)<=i-1; omega,by show i-1<(s.len:Int); omega,?_⟩,by show(i-1+1).toNat<(i+1).toNat; omega⟩
       have e:(i-1+1).toNat=i.toNat:=by omega
       show(dig a).drop (i-1+1).toNat=(dig b).drop (i-1+1).toNat
       rw[e,List.drop_eq_getElem_cons (by omega:i.toNat<(dig a).length),List.drop_eq_getElem_cons (by omega:i.toNat<(dig b).length)]
       have e2:i.toNat+1=(i+1).toNat:=by omega
       rw[e2,hd]
       congr 1
       simp only[List.getD,List.getElem?_eq_getElem (by omega:i.toNat<(dig a).length),List.getElem?_eq_getElem (by omega:i.toNat<(dig b).length),Option.getD_some]at heq
       omega
   . simp only[ge_iff_le,decide_eq_false_iff_not]at hp
     have e:(i+1).toNat=0:=by omega
     rw[e]at hd
     have:=k11 (by simpa using hd)
     subst this
     simp
theorem S0e{V:View}{s t:Sl}{a b:Nat}(hs:L00 V s a)(ht:L00 V t b)(ha:wn a<=2^45)(hb:wn b<=2^45) :
 a00 prog Z0h #[s.v,t.v] V λv V'=>∃r:Sl,v=r.v/\L00 V' r (a+b):=by
 refine F0n s t V _ (λ_ x V'=>∃a' b',L00 V' x.t0 a'/\L00 V' x.t1 b'/\a'+b'=a+b/\wn a'<=2^45/\x.t1.len<=x.t0.len)
  (λc x V'=>∃a' b' l k,L00 V' c.t0 a'/\L00 V' c.t1 b'/\a'+b'=a+b/\c.t1.len<=c.t0.len/\x.o19=wv l/\WB l/\l.length=c.t0.len+1/\x.t6=(k:Nat)/\k<=1/\0<=x.t7/\x.t7<=c.t0.len /\
    wval (l.take x.t7.toNat)+k*4294967296^x.t7.toNat=wval ((dig a').take x.t7.toNat)+wval ((dig b').take x.t7.toNat))
  (λc x _=>(c.t0.len-x.t7).toNat) ⟨⟨λh=>⟨b,a,ht,hs,by omega,hb,?_⟩,λh=>⟨a,b,hs,ht,rfl,ha,?_⟩⟩,?_⟩
 . have:s.len<t.len:=by simpa using h
   exact Nat.le_of_lt this
 . have:¬s.len<t.len:=by simpa using h
   exact Nat.le_of_not_lt this
 rintro⟨x,y⟩ V1 hle ⟨a',b',hx,hy,hab,hwa,hlen⟩
 simp only at hx hy hlen ⊢
 have hxl:=hx.len
 have hyl:=hy.len
 simp only[wn]at hwa
 rw[i64w (n:=(x.len:Int)+1) (by omega) (by omega)]
 refine⟨⟨by omega,by omega,by omega,by omega⟩,⟨a',b',List.replicate (x.len+1) 0,0,hx,hy,hab,hlen,?_,WB.zeros _,by simp,rfl,by omega,Int.le_refl _,by show(0:Int)<=x.len; omega,by simp[wval]⟩,?_⟩
 . show(List.replicate (Int.toNat ((x.len:Int)+1)) [Value.int .u32 0]).flatten=_
   rw[show Int.toNat ((x.len:Int)+1)=x.len+1 by omega,L05]
 rintro⟨k,i,o⟩ V2 hle2 ⟨a2,b2,l,k',hx2,hy2,hab2,_,ho,hwb,hl,hk,hk1,hi0,hi1,hval⟩
 simp only at ho hk hi0 hi1 hval hx2 hy2 hl ⊢
 obtain rfl:=hx2.inj (hx.le hle2)
 obtain rfl:=hy2.inj (hy.le hle2)
 subst hk
 refine⟨λhp => ?_,λhp => ?_⟩
 . simp only[decide_eq_true_eq]at hp
   have step:∀(z:Nat),z=(dig a2).getD i.toNat 0+(dig b2).getD i.toNat 0+k'->z<8589934592 ->
    (∃a' b' l k,L00 V2 x a'/\L00 V2 y b'/\a'+b'=a+b/\y.len<=x.len/\List.set o (0+Int.toNat i*1) (.int .u32 ((z%4294967296:Nat):Int))=wv l/\WB l/\l.length=x.len+1/\((z / 4294967296:Nat):Int)=(k:Nat)/\k<=1/\0<=i+1/\i+1<=x.len /\
      wval (l.take (i+1).toNat)+k*4294967296^(i+1).toNat=wval ((dig a').take (i+1).toNat)+wval ((dig b').take (i+1).toNat)):=by
    intro z hz hlt
    refine⟨a2,b2,l.set i.toNat (z%4294967296),z / 4294967296,hx2,hy2,hab,hlen,?_,hwb.set (by omega),by simpa using hl,rfl,by omega,by omega,by omega,?_⟩
    . rw[ho,show 0+Int.toNat i*1=i.toNat by omega,S05]
    . rw[show(i+1).toNat=i.toNat+1 by omega,E07 (by omega),k01,k01,Nat.pow_succ]
      have hrc:z%4294967296+z / 4294967296*4294967296=(dig a2).getD i.toNat 0+(dig b2).getD i.toNat 0+k':=by omega
      have:=congrArg (·*4294967296^i.toNat) hrc
      simp only[Nat.add_mul]at this
      grind
   have w1:=hx2.getD_lt i.toNat
   have w2:=hy2.getD_lt i.toNat
   rw[i64w (n:=i+1) (by omega) (by omega)]
   refine⟨⟨by omega,by omega,hx.isSome (by omega)⟩,_,hx2.get (by omega) (by omega),λhp2 => ?_,λhp2 => ?_⟩
   . simp only[decide_eq_true_eq]at hp2
     refine⟨⟨by omega,by omega,hy.isSome (by omega)⟩,_,hy2.get (by omega) (by omega),⟨by omega,by omega⟩,by rw[ho,m01]; omega,?_⟩
     rw[u64n (z:=(dig a2).getD i.toNat 0) (by omega),u64n (z:=(dig b2).getD i.toNat 0) (by omega),<-Int.natCast_add,u64n (by omega),<-Int.natCast_add,u64n (by omega),fd32,u32n]
     have g:=step ((dig a2).getD i.toNat 0+k'+(dig b2).getD i.toNat 0) (by omega) (by omega)
     exact⟨g,by show((x.len:Int)-(i+1)).toNat<((x.len:Int)-i).toNat; omega⟩
   . simp only[decide_eq_false_iff_not]at hp2
     have w2:(dig b2).getD i.toNat 0=0:=by simp only[List.getD]; rw[List.getElem?_eq_none (by omega)]; rfl
     refine⟨⟨by omega,by omega⟩,by rw[ho,m01]; omega,?_⟩
     rw[u64n (z:=(dig a2).getD i.toNat 0) (by omega),<-Int.natCast_add,u64n (by omega),fd32,u32n]
     have g:=step ((dig a2).getD i.toNat 0+k') (by omega) (by omega)
     exact⟨g,by show((x.len:Int)-(i+1)).toNat<((x.len:Int)-i).toNat; omega⟩
 . simp only[decide_eq_false_iff_not]at hp
   refine⟨⟨by omega,by omega⟩,by rw[ho,m01]; omega,λb1 V5 hle5 hb => ?_⟩
   have hi:i.toNat=x.len:=by omega
   have ek:u32.wrap (k':Int)=(k':Int):=u32w (by omega) (by omega)
   have hw:Y01 V5 (Sl.mk (some (Addr.mk b1 0 none)) (Int.toNat ((x.len:Int)+1)) (Int.toNat ((x.len:Int)+1))) (l.set x.len k') :=
    Y01.of_block (by rw[hb,ho,show 0+Int.toNat (x.len:Int)*1=x.len by omega,ek,S05]) (by simp; omega) (Nat.le_refl _) (hwb.set (by omega))
   refine(W04 hw (by simp; omega)).mono λv V6 _ ⟨r,hv,hr⟩=>⟨r,hv,r,rfl,?_⟩
   have e:wval (l.set x.len k')=a+b:=by
    have h1:(l.set x.len k')=(l.set x.len k').take (x.len+1):=by rw[List.take_of_length_le]; simp; omega
    rw[h1,E07 (by omega)]
    rw[hi,z01 (l:=dig a2) (by omega),z01 (l:=dig b2) (by omega),F01,F01]at hval
    omega
   rw[e]at hr; exact hr
theorem T16{A B k:Nat}(hA:A<4294967296)(hB:B<4294967296)(hk:k<=1) :
 ∃r c:Nat,Int.fdiv (u64.wrap ((u64.wrap ((A:Int)-(k:Int)))-(B:Int))) (2^(min (Int.toNat 63) (u64.bits)))=(c:Int) /\
  u32.wrap (u64.wrap ((u64.wrap ((A:Int)-(k:Int)))-(B:Int)))=(r:Int)/\r+B+k=A+c*4294967296/\r<4294967296/\c<=1:=by
 have e:u64.wrap ((u64.wrap ((A:Int)-(k:Int)))-(B:Int))=(((A:Int)-k-B)%18446744073709551616):=by
  rw[u64m,u64m]; omega
 rw[e]
 obtain⟨m,hm⟩:∃m:Nat,((A:Int)-k-B)%18446744073709551616=m:=⟨(((A:Int)-k-B)%18446744073709551616).toNat,by omega⟩
 rw[hm,fd63,u32n]
 exact⟨m%4294967296,m / 9223372036854775808,rfl,rfl,by omega,by omega,by omega⟩
theorem T0e{V:View}{s t:Sl}{a b:Nat}(hs:L00 V s a)(ht:L00 V t b)(ha:wn a<=2^45)(hba:b<=a) :
 a00 prog S0p #[s.v,t.v] V λv V'=>∃r:Sl,v=r.v/\L00 V' r (a-b):=by
 have hsl:=hs.len
 have htl:=ht.len
 have hwn:=T0b hba
 simp only[wn]at ha hwn
 refine G0n s t V _
  (λ_ x V'=>∃l k:_,x.o11=wv l/\WB l/\l.length=s.len/\x.t6=(k:Nat)/\k<=1/\0<=x.t7/\x.t7<=s.len /\
    wval (l.take x.t7.toNat)+wval ((dig b).take x.t7.toNat)=wval ((dig a).take x.t7.toNat)+k*4294967296^x.t7.toNat)
  (λ_ x _=>(s.len-x.t7).toNat) ⟨⟨by omega,by omega,by omega,by omega⟩,⟨List.replicate s.len 0,0,?_,WB.zeros _,by simp,rfl,by omega,Int.le_refl _,by show(0:Int)<=s.len; omega,by simp[wval]⟩,?_⟩
 . show(List.replicate (Int.toNat (s.len:Int)) [Value.int .u32 0]).flatten=_
   rw[Int.toNat_natCast,L05]
 rintro⟨k,i,o⟩ V2 hle2 ⟨l,k',ho,hwb,hl,hk,hk1,hi0,hi1,hval⟩
 simp only at ho hk hi0 hi1 hval hl ⊢
 subst hk
 have hx2:=hs.le hle2
 have hy2:=ht.le hle2
 refine⟨λhp => ?_,λhp => ?_⟩
 . simp only[decide_eq_true_eq]at hp
   have step:∀(r c:Nat),r+(dig b).getD i.toNat 0+k'=(dig a).getD i.toNat 0+c*4294967296->r<4294967296->c<=1 ->
    (∃l k:_,List.set o (0+Int.toNat i*1) (.int .u32 (r:Nat))=wv l/\WB l/\l.length=s.len/\(c:Int)=(k:Nat)/\k<=1/\0<=i+1/\i+1<=s.len /\
      wval (l.take (i+1).toNat)+wval ((dig b).take (i+1).toNat)=wval ((dig a).take (i+1).toNat)+k*4294967296^(i+1).toNat):=by
    intro r c hrc hr hc
    refine⟨l.set i.toNat r,c,?_,hwb.set hr,by simpa using hl,rfl,hc,by omega,by omega,?_⟩
    . rw[ho,show 0+Int.toNat i*1=i.toNat by omega,S05]
    . rw[show(i+1).toNat=i.toNat+1 by omega,E07 (by omega),k01,k01,Nat.pow_succ]
      have:=congrArg (·*4294967296^i.toNat) hrc
      simp only[Nat.add_mul]at this
      grind
   have w1:=hx2.getD_lt i.toNat
   have w2:=hy2.getD_lt i.toNat
   rw[i64w (n:=i+1) (by omega) (by omega)]
   refine⟨⟨by omega,by omega,hs.isSome (by omega)⟩,_,hx2.get (by omega) (by omega),λhp2 => ?_,λhp2 => ?_⟩
   . simp only[decide_eq_true_eq]at hp2
     refine⟨⟨by omega,by omega,ht.isSome (by omega)⟩,_,hy2.get (by omega) (by omega),⟨by omega,by omega⟩,by rw[ho,m01]; omega,?_⟩
     obtain⟨r,c,e1,e2,e3,e4,e5⟩:=T16 w1 w2 hk1
     rw[u64n (z:=(dig a).getD i.toNat 0) (by omega),u64n (z:=(dig b).getD i.toNat 0) (by omega),e1,e2]
     exact⟨step r c e3 e4 e5,by show((s.len:Int)-(i+1)).toNat<((s.len:Int)-i).toNat; omega⟩
   . simp only[decide_eq_false_iff_not]at hp2
     have w2:(dig b).getD i.toNat 0=0:=by simp only[List.getD]; rw[List.getElem?_eq_none (by omega)]; rfl
     refine⟨⟨by omega,by omega⟩,by rw[ho,m01]; omega,?_⟩
     obtain⟨r,c,e1,e2,e3,e4,e5⟩:=T16 w1 (show 0<4294967296 by omega) hk1
     have e0:u64.wrap ((u64.wrap ((((dig a).getD i.toNat 0:Nat):Int)-(k':Int)))-((0:Nat):Int))=u64.wrap ((((dig a).getD i.toNat 0:Nat):Int)-(k':Int)):=by
      rw[u64m,u64m]; omega
     rw[e0]at e1 e2
     rw[u64n (z:=(dig a).getD i.toNat 0) (by omega),e1,e2]
     exact⟨step r c (by omega) e4 e5,by show((s.len:Int)-(i+1)).toNat<((s.len:Int)-i).toNat; omega⟩
 . simp only[decide_eq_false_iff_not]at hp
   intro b1 V5 hle5 hb
   have hi:i.toNat=s.len:=by omega
   have hw:Y01 V5 (Sl.mk (some (Addr.mk b1 0 none)) (Int.toNat (s.len:Int)) (Int.toNat (s.len:Int))) l :=
    Y01.of_block (by rw[hb,ho]) (by omega) (Nat.le_refl _) hwb
   refine(W04 hw (by omega)).mono λv V6 _ ⟨r,hv,hr⟩=>⟨r,hv,r,rfl,?_⟩
   rw[hi,z01 (l:=dig a) (by omega),z01 (l:=dig b) (by omega),z01 (by omega),F01,F01]at hval
   have h3:=n0h hwb
   have e:wval l=a-b:=by
    rcases Nat.eq_zero_or_pos k' with h0|h0
    . subst h0; omega
    . have:k'=1:=by omega
      subst this
      rw[hl]at h3
      omega
   rw[e]at hr; exact hr
theorem b0r{a b:Nat}(ha:a<4294967296)(hb:b<4294967296):a*b<=18446744065119617025 :=
 Nat.le_trans (Nat.mul_le_mul (Nat.le_of_lt_succ ha) (Nat.le_of_lt_succ hb)) (by decide)
theorem C0a{V:View}{s t:Sl}{a b:Nat}(hs:L00 V s a)(ht:L00 V t b)(ha:wn a<=2^44)(hb:wn b<=2^44) :
 a00 prog M0p #[s.v,t.v] V λv V'=>∃r:Sl,v=r.v/\L00 V' r (a*b):=by
 have hsl:=hs.len
 have htl:=ht.len
 simp only[wn]at ha hb
 refine H0n s t V _
  (λ_ x _=>∃i l,x=z02.mk (i:Nat) (wv l)/\i<=s.len/\WB l/\l.length=s.len+t.len/\seg l 0 (i+t.len)=wval ((dig a).take i)*b)
  (λ_ x _=>(s.len-x.t6).toNat)
  (λc x _=>∃i k cr l,c=i02.mk (i:Nat)/\i<s.len/\x=A02.mk (cr:Nat) (k:Nat) (wv l)/\WB l/\l.length=s.len+t.len/\k<=t.len/\cr<4294967296 /\
    seg l 0 (i+t.len)+cr*4294967296^(i+k)=wval ((dig a).take i)*b+(dig a).getD i 0*wval ((dig b).take k)*4294967296^i)
  (λ_ x _=>(t.len-x.t8).toNat) ?_
 rw[i64w (n:=(s.len:Int)+t.len) (by omega) (by omega)]
 have hn:Int.toNat ((s.len:Int)+t.len)=s.len+t.len:=by omega
 rw[hn]
 refine⟨⟨by omega,by omega,by omega,by omega⟩,⟨0,List.replicate (s.len+t.len) 0,?_,by omega,WB.zeros _,by simp,?_⟩,?_⟩
 . rw[L05]; rfl
 . rw[E0q]; simp[wval]
 rintro _ V2 hle2 ⟨i,l,rfl,hi,hwb,hl,hval⟩
 refine⟨λhp => ?_,λhp b1 V4 hle4 hb1 => ?_⟩
 . simp only[decide_eq_true_eq]at hp
   refine⟨⟨i,0,0,l,rfl,by omega,rfl,hwb,hl,by omega,by omega,by simp[hval,wval]⟩,?_⟩
   rintro _ V3 hle3 ⟨i',k,cr,l',hc,hi',rfl,hwb',hl',hk,hcr,hval'⟩
   obtain rfl:i=i':=by simp only[i02.mk.injEq]at hc; omega
   have hbd:=(b05 a).getD i
   simp only[Int.toNat_natCast]
   refine⟨λhq => ?_,λhq => ?_⟩
   . simp only[decide_eq_true_eq]at hq
     have hbk:=(b05 b).getD k
     have hwl:=hwb'.getD (i+k)
     have hm:=b0r hbd hbk
     have hik:i+k<l'.length:=by omega
     rw[i64w (n:=(i:Int)+k) (by omega) (by omega),i64w (n:=(k:Int)+1) (by omega) (by omega)]
     have e1:Int.toNat ((i:Int)+k)=i+k:=by omega
     rw[e1]
     refine⟨⟨by omega,hp,hs.isSome (by omega)⟩,_,(hs.le (View.le_trans hle2 hle3)).get (by show(0:Int)<=(i:Nat); omega) hp,⟨by omega,hq,ht.isSome (by omega)⟩,_,(ht.le (View.le_trans hle2 hle3)).get (by show(0:Int)<=(k:Nat); omega) hq,⟨by omega,by omega⟩,((l'.getD (i+k) 0:Nat):Int),?_,⟨by omega,by omega⟩,?_,?_⟩
     . rw[show 0+(i+k)*1=i+k by omega]; exact m09 hik
     . rw[m01]; omega
     simp only[Int.toNat_natCast]
     rw[u64n (z:=(dig a).getD i 0) (by omega),u64n (z:=(dig b).getD k 0) (by omega),u64n (z:=l'.getD (i+k) 0) (by omega),<-Int.natCast_mul,u64n (z:=(dig a).getD i 0*(dig b).getD k 0) (by omega),<-Int.natCast_add,
      u64n (z:=(dig a).getD i 0*(dig b).getD k 0+l'.getD (i+k) 0) (by omega),<-Int.natCast_add,u64n (by omega),fd32,u32n,show 0+(i+k)*1=i+k by omega]
     generalize hm':(dig a).getD i 0*(dig b).getD k 0=m at *
     generalize hd:m+l'.getD (i+k) 0+cr=z
     rw[S05]
     refine⟨⟨i,k+1,z / 4294967296,l'.set (i+k) (z%4294967296),rfl,by omega,by simp,hwb'.set (by omega),by simpa using hl',by omega,by omega,?_⟩,by show((t.len:Int)-((k:Int)+1)).toNat<((t.len:Int)-k).toNat; omega⟩
     have h1:=D0q (l:=l') (p:=i+k) (d:=z%4294967296) (j:=0) (k:=i+t.len) (by omega) (by omega) hik
     rw[Nat.sub_zero]at h1
     rw[k01,<-Nat.add_assoc,Nat.pow_succ]
     have h2:z%4294967296+z / 4294967296*4294967296=z:=by omega
     have h3:=congrArg (·*4294967296^(i+k)) h2
     rw[<-hd]at h3
     simp only[Nat.add_mul]at h3
     have h4:(dig a).getD i 0*((dig b).getD k 0*4294967296^k)*4294967296^i=m*4294967296^(i+k):=by rw[<-hm',Nat.pow_add]; grind
     rw[<-hd]at h1
     rw[Nat.mul_add,Nat.add_mul,h4,<-hd]
     have h5:∀q,q*(4294967296^(i+k)*4294967296)=q*4294967296*4294967296^(i+k):=by intro q; grind
     rw[h5]
     omega
   . simp only[decide_eq_false_iff_not]at hq
     have hkt:k=t.len:=by omega
     subst hkt
     rw[i64w (n:=(i:Int)+t.len) (by omega) (by omega),i64w (n:=(i:Int)+1) (by omega) (by omega)]
     have e1:Int.toNat ((i:Int)+t.len)=i+t.len:=by omega
     rw[e1,show 0+(i+t.len)*1=i+t.len by omega,u32w (by omega) (by omega),S05,m01]
     refine⟨⟨by omega,by omega⟩,by omega,⟨i+1,l'.set (i+t.len) cr,by simp,by omega,hwb'.set hcr,by simpa using hl',?_⟩,by show((s.len:Int)-((i:Int)+1)).toNat<((s.len:Int)-i).toNat; omega⟩
     rw[show i+1+t.len=i+t.len+1 by omega,i03 (by omega) (by omega),hval',k01,z01 (l:=dig b) (by omega),F01]
     grind
 . simp only[decide_eq_false_iff_not]at hp
   have hi':i=s.len:=by omega
   subst hi'
   rw[o08 (by omega),z01 (l:=dig a) (by omega),F01]at hval
   have hw:Y01 V4 (Sl.mk (some (Addr.mk b1 0 none)) (s.len+t.len) (s.len+t.len)) l:=Y01.of_block hb1 (by omega) (Nat.le_refl _) hwb
   refine(W04 hw (by omega)).mono λv V6 _ ⟨r,hv,hr⟩=>⟨r,hv,r,rfl,?_⟩
   rw[hval]at hr; exact hr
theorem F0i{V:View}{s:Sl}{a d:Nat}(hs:L00 V s a)(ha:wn a<=2^45)(hd0:0<d)(hd:d<4294967296) :
 a00 prog H0l #[s.v,.int .u32 (d:Int)] V λv V'=>∃r:Sl,v = .tuple #[r.v,.int .u32 ((a%d:Nat):Int)]/\L00 V' r (a / d):=by
 have hsl:=hs.len
 simp only[wn]at ha
 refine D0k s d V _
  (λ_ x _=>∃(j k rest:Nat) (l:List Nat),x=S01.mk (rest:Nat) ((j:Int)-1) (wv l)/\j+k=s.len/\WB l/\l.length=s.len/\rest<d/\seg (dig a) j k=seg l j k*d+rest)
  (λ_ x _=>(x.t8+1).toNat) ⟨⟨by omega,by omega,by omega,by omega⟩,⟨s.len,0,0,List.replicate s.len 0,?_,by omega,WB.zeros _,by simp,hd0,by simp[n06]⟩,?_⟩
 . rw[i64w (by omega) (by omega),Int.toNat_natCast,L05]; rfl
 rintro _ V1 hle ⟨j,k,rest,l,rfl,hjk,hwb,hl,hr,hval⟩
 refine⟨λhp => ?_,λhp b1 V3 hle3 hb1 => ?_⟩
 . simp only[ge_iff_le,decide_eq_true_eq]at hp
   obtain⟨i,rfl⟩:∃i,j=i+1:=⟨j-1,by omega⟩
   simp only[show(((i+1:Nat):Int)-1)=(i:Nat)by omega,Int.toNat_natCast]
   have hw:=(b05 a).getD i
   have h1:(rest*4294967296+(dig a).getD i 0) / d<4294967296:=by
    rw[Nat.div_lt_iff_lt_mul (by omega)]
    have:=Nat.mul_le_mul_right 4294967296 (Nat.succ_le_of_lt hr)
    rw[Nat.succ_mul]at this
    omega
   have h2:(rest*4294967296+(dig a).getD i 0)%d<d:=Nat.mod_lt _ (by omega)
   have e:(2:Int)^(min (Int.toNat 32) (u64.bits))=4294967296:=by decide
   refine⟨⟨by omega,by omega,hs.isSome (by omega)⟩,_,(hs.le hle).get (i:=(i:Nat)) (by omega) (by omega),?_⟩
   simp only[Int.toNat_natCast]
   rw[u64n (z:=d) (by omega),u64n (z:=(dig a).getD i 0) (by omega),e,show(rest:Int)*4294967296=((rest*4294967296:Nat):Int)by omega,u64n (z:=rest*4294967296) (by omega),or64 hw (by omega),
    u64n (z:=rest*4294967296+(dig a).getD i 0) (by omega),<-Int.ofNat_tdiv,<-Int.ofNat_tmod,u64n (by omega),u32n,Nat.mod_eq_of_lt h1,i64w (by omega) (by omega),show 0+i*1=i by omega,S05]
   refine⟨by omega,⟨by omega,by omega⟩,by rw[m01]; omega,by omega,⟨i,k+1,_,_,rfl,by omega,hwb.set h1,by simpa using hl,Nat.mod_lt _ hd0,?_⟩,by show((i:Int)-1+1).toNat<((i:Int)+1).toNat; omega⟩
   rw[Nat.add_comm k 1,W08,W08 _ i 1 k,hval,q09 (j:=i+1) (by omega),S02,S02,n06,n06,Nat.add_zero,b07,if_pos ⟨rfl,by omega⟩]
   have:=Nat.div_add_mod (rest*4294967296+(dig a).getD i 0) d
   generalize (rest*4294967296+(dig a).getD i 0) / d=q at *
   generalize (rest*4294967296+(dig a).getD i 0)%d=m at *
   simp only[Nat.pow_zero,Nat.mul_one,Nat.pow_one,Nat.zero_add,Nat.mul_add,Nat.add_mul]
   have e2:4294967296*(seg l (i+1) k*d)=4294967296*seg l (i+1) k*d:=by rw[Nat.mul_assoc]
   have e3:q*d=d*q:=Nat.mul_comm _ _
   omega
 . simp only[ge_iff_le,decide_eq_false_iff_not]at hp
   have hj:j=0:=by omega
   subst hj
   have hk:k=s.len:=by omega
   subst hk
   have hw:Y01 V3 (Sl.mk (some (Addr.mk b1 0 none)) (Int.toNat (s.len:Int)) (Int.toNat (s.len:Int))) l:=Y01.of_block hb1 (by omega) (Nat.le_refl _) hwb
   rw[o08 (by omega),o08 (by omega),F01]at hval
   have e1:a / d=wval l:=by rw[hval,Nat.mul_comm,Nat.mul_add_div hd0,Nat.div_eq_of_lt hr]; omega
   have e2:a%d=rest:=by rw[hval,Nat.mul_comm,Nat.mul_add_mod,Nat.mod_eq_of_lt hr]
   refine(W04 hw (by omega)).mono λv V6 _ ⟨r,hv,hr⟩=>⟨r,hv,r,?_,?_⟩
   . rw[e2,u32n,Nat.mod_eq_of_lt (by omega)]
   . rw[e1]; exact hr
theorem w11{x:Nat}(h:x≠0):bl x=bl (x / 2)+1:=by
 by_cases h1:x=1
 . subst h1; decide
 . have:=P0v (m:=x) 1 (by omega)
   simpa using this
theorem Z03{V:View}{s:Sl}{a:Nat}(hs:L00 V s a)(ha:wn a<=2^45) :
 a00 prog w09 #[s.v] V λv _=>v = .int .i64 (bl a:Nat):=by
 have hsl:=hs.len
 have hwn:wn a=s.len:=by simp only[wn]; exact hsl.symm
 refine L0l s V _ (λ_ x _=>∃k y:Nat,x=b02.mk (k:Nat) (y:Nat)/\k+bl y=bl ((dig a).getD (wn a-1) 0)/\k<=32) (λ_ x _=>x.t4.toNat) ⟨λh => ?_,λh => ?_⟩
 . have h:(s.len:Int)=0:=by simpa using h
   have:a=0:=W05.1 (by omega)
   subst this; rfl
 . have h:¬(s.len:Int)=0:=by simpa using h
   have ha0:a≠0:=by rintro rfl; rw[U08]at hwn; omega
   rw[i64w (n:=(s.len:Int)-1) (by omega) (by omega)]
   have e:Int.toNat ((s.len:Int)-1)=wn a-1:=by omega
   have h2:=D15 ha0
   have h3:bl ((dig a).getD (wn a-1) 0)<=32:=by
    have h3:=(t09 ha0).2.2
    have:=B0g h3
    have:=(b05 a).getD (wn a-1)
    have:=(Nat.pow_lt_pow_iff_right (a:=2) (n:=bl ((dig a).getD (wn a-1) 0)-1) (m:=32) (by omega)).1 (by omega)
    omega
   refine⟨⟨by omega,by omega,hs.isSome (by omega)⟩,_,hs.get (by omega) (by omega),⟨0,_,rfl,by rw[e]; omega,by omega⟩,?_⟩
   rintro _ V1 l1 ⟨k,y,rfl,hk,hk2⟩
   refine⟨λhp => ?_,λhp => ?_⟩
   . simp only[gt_iff_lt,decide_eq_true_eq]at hp
     have hb:=w11 (x:=y) (by omega)
     have e1:Int.fdiv (y:Int) (2^(min (Int.toNat 1) (u32.bits)))=((y / 2:Nat):Int):=by
      have e2:(2:Int)^(min (Int.toNat 1) (u32.bits))=2:=by decide
      rw[e2,Int.fdiv_eq_ediv_of_nonneg _ (by omega)]; omega
     simp only[]
     rw[e1,i64w (by omega) (by omega)]
     exact⟨⟨k+1,y / 2,rfl,by omega,by omega⟩,by show((y / 2:Nat):Int).toNat<(y:Int).toNat; omega⟩
   . simp only[gt_iff_lt,decide_eq_false_iff_not]at hp
     have hy:y=0:=by omega
     subst hy
     rw[z0e]at hk
     simp only[]
     rw[i64w (n:=32*_) (by omega) (by omega),i64w (by omega) (by omega)]
     congr 1
     omega
theorem Z05{V:View}{s:Sl}{a n:Nat}(hs:L00 V s a)(ha:wn a<=2^44)(hn:n<=2^44) :
 a00 prog a0i #[s.v,.int .i64 (n:Int)] V λv V'=>∃r:Sl,v=r.v/\L00 V' r (a*2^n):=by
 have hsl:=hs.len
 have hs0:s.len=0->a=0:=λh=>W05.1 (by simp only[wn]; omega)
 simp only[wn]at ha
 obtain⟨W,hW⟩:∃W,W=n / 32:=⟨_,rfl⟩
 obtain⟨R,hR⟩:∃R,R=2^(n%32):=⟨_,rfl⟩
 have hR1:R<=2147483648:=by rw[hR]; exact Nat.pow_le_pow_right (by omega) (show n%32<=31 by omega)
 obtain⟨Q,hQ⟩:∃Q,R*Q=4294967296:=⟨2^(32-n%32),by rw[hR,<-Nat.pow_add,show n%32+(32-n%32)=32 by omega]⟩
 refine C0n s n V _
  (λ_ x _=>∃(i:Nat) (l:List Nat),x=u02.mk (i:Nat) (wv l)/\i<=s.len/\WB l/\l.length=s.len+W+1/\seg l 0 (i+W+1)=wval ((dig a).take i)*R*4294967296^W/\l.getD (i+W) 0<R)
  (λ_ x _=>(s.len-x.t6).toNat)
  ⟨λh=>⟨_,rfl,by have h:(s.len:Int)=0:=(by simpa using h); have:=hs0 (by omega); subst this; rw[Nat.zero_mul]; exact L00.zero V⟩,λ_ => ?_⟩
 rw[td32,tm32,<-hW,i64w (n:=(W:Int)) (by omega) (by omega),i64w (n:=(s.len:Int)+W) (by omega) (by omega),i64w (n:=(s.len:Int)+W+1) (by omega) (by omega),
  u64w (n:=((n%32:Nat):Int)) (by omega) (by omega),Int.toNat_natCast,E13 (show n%32<=64 by omega),<-hR]
 have hN:Int.toNat ((s.len:Int)+W+1)=s.len+W+1:=by omega
 rw[hN]
 refine⟨⟨by omega,by omega,by omega,by omega⟩,⟨0,List.replicate (s.len+W+1) 0,?_,by omega,WB.zeros _,by simp,?_,?_⟩,?_⟩
 . rw[L05]; rfl
 . rw[E0q]; simp[wval]
 . have:(List.replicate (s.len+W+1) 0).getD (0+W) 0=0:=by simp only[List.getD,List.getElem?_replicate]; split<;>rfl
   rw[this,hR]; exact Nat.two_pow_pos _
 rintro _ V2 hle2 ⟨i,l,rfl,hi,hwb,hl,hval,hlt⟩
 refine⟨λhp => ?_,λhp b1 V4 hle4 hb1 => ?_⟩
 . simp only[decide_eq_true_eq]at hp
   have hai:=(b05 a).getD i
   have hW2:=hwb.getD (i+W)
   simp only[Int.toNat_natCast]
   rw[i64w (n:=(i:Int)+W) (by omega) (by omega),i64w (n:=(i:Int)+W+1) (by omega) (by omega),i64w (n:=(i:Int)+1) (by omega) (by omega)]
   have e1:Int.toNat ((i:Int)+W)=i+W:=by omega
   have e2:Int.toNat ((i:Int)+W+1)=i+W+1:=by omega
   rw[e1,e2,show 0+(i+W)*1=i+W by omega,show 0+(i+W+1)*1=i+W+1 by omega]
   refine⟨⟨by omega,hp,hs.isSome (by omega)⟩,_,(hs.le hle2).get (i:=(i:Nat)) (by omega) hp,by omega,⟨by omega,by omega⟩,((l.getD (i+W) 0:Nat):Int),m09 (by omega),⟨by omega,by omega⟩,by rw[m01]; omega,⟨by omega,by omega⟩,by simp only[List.length_set,m01]; omega,?_⟩
   simp only[Int.toNat_natCast]
   generalize hA:(dig a).getD i 0=A at *
   have hm:A*R<=4294967295*2147483648:=Nat.mul_le_mul (by omega) hR1
   rw[u64w (n:=(A:Int)) (by omega) (by omega),<-Int.natCast_mul,u64w (n:=((A*R:Nat):Int)) (by omega) (by omega)]
   have e3:(2:Int)^(min (Int.toNat 32) (u64.bits))=4294967296:=by decide
   rw[e3,Int.fdiv_eq_ediv_of_nonneg _ (by omega)]
   have e4:u32.wrap (((A*R:Nat):Int) / 4294967296)=((A*R / 4294967296:Nat):Int):=by rw[u32w (by omega) (by omega)]; omega
   have e5:u32.wrap ((A*R:Nat):Int)=((A*R%4294967296:Nat):Int):=by rw[u32m]; omega
   have e6:A*R%4294967296=(A%Q)*R:=by
    rw[<-hQ,Nat.mul_comm A R,Nat.mul_mod_mul_left,Nat.mul_comm]
   have hhi:A*R / 4294967296<R:=by
    rw[Nat.div_lt_iff_lt_mul (by omega),Nat.mul_comm]
    exact Nat.mul_lt_mul_of_pos_left (by omega) (by rw[hR]; exact Nat.two_pow_pos _)
   have hlo:l.getD (i+W) 0+A*R%4294967296<4294967296:=by
    rw[e6]
    have h0:0<Q:=by
     rcases Nat.eq_zero_or_pos Q with h|h
     . subst h; simp at hQ
     . exact h
    have h1:A%Q+1<=Q:=Nat.mod_lt _ h0
    have h2:=Nat.mul_le_mul_right R h1
    rw[Nat.succ_mul,Nat.mul_comm Q R,hQ]at h2
    omega
   rw[e4,e5,D16 hW2 (Nat.mod_lt _ (by omega)),e6]
   have hor:(l.getD (i+W) 0 ||| A%Q*R)=l.getD (i+W) 0+A%Q*R:=by
    rw[hR]at hlt ⊢; exact z14 hlt
   rw[hor,<-e6,u32w (by omega) (by omega),S05,S05]
   refine⟨⟨i+1,(l.set (i+W) (l.getD (i+W) 0+A*R%4294967296)).set (i+W+1) (A*R / 4294967296),rfl,by omega,(hwb.set (by omega)).set (by omega),by simpa using hl,?_,?_⟩,by show((s.len:Int)-((i:Int)+1)).toNat<((s.len:Int)-i).toNat; omega⟩
   . rw[show i+1+W+1=(i+W+1)+1 by omega,i03 (by omega) (by simp; omega)]
     have h1:=D0q (l:=l) (p:=i+W) (d:=l.getD (i+W) 0+A*R%4294967296) (j:=0) (k:=i+W+1) (by omega) (by omega) (by omega)
     rw[Nat.sub_zero,hval]at h1
     rw[k01,hA,Nat.pow_succ]
     have h2:A*R%4294967296+A*R / 4294967296*4294967296=A*R:=by omega
     have h3:=congrArg (·*4294967296^(i+W)) h2
     simp only[Nat.add_mul]at h1 h3 ⊢
     have h4:A*4294967296^i*R*4294967296^W=A*R*4294967296^(i+W):=by rw[Nat.pow_add]; grind
     have h5:∀q,q*(4294967296^(i+W)*4294967296)=q*4294967296*4294967296^(i+W):=by intro q; grind
     rw[h4,h5]
     omega
   . rw[b07,if_pos ⟨by omega,by simp; omega⟩]; exact hhi
 . simp only[decide_eq_false_iff_not]at hp
   have hi':i=s.len:=by omega
   subst hi'
   rw[o08 (by omega),z01 (l:=dig a) (by omega),F01]at hval
   have hw:Y01 V4 (Sl.mk (some (Addr.mk b1 0 none)) (s.len+W+1) (s.len+W+1)) l:=Y01.of_block hb1 (by omega) (Nat.le_refl _) hwb
   refine(W04 hw (by omega)).mono λv V6 _ ⟨r,hv,hr⟩=>⟨r,hv,r,rfl,?_⟩
   rw[hval,Nat.mul_assoc,hR,hW,<-D0i]at hr; exact hr
theorem j08{V:View}{s:Sl}{a n:Nat}(hs:L00 V s a)(ha:wn a<=2^44)(hn:n<=2^44) :
 a00 prog q0e #[s.v,.int .i64 (n:Int)] V λv V'=>∃r:Sl,v=r.v/\L00 V' r (a / 2^n):=by
 have hsl:=hs.len
 have hwn:wn a=s.len:=by simp only[wn]; exact hsl.symm
 have haw:=o0h a
 rw[hwn]at ha haw
 obtain⟨W,hW⟩:∃W,W=n / 32:=⟨_,rfl⟩
 obtain⟨R,hR⟩:∃R,R=2^(n%32):=⟨_,rfl⟩
 have hR0:0<R:=by rw[hR]; exact Nat.two_pow_pos _
 obtain⟨Q,hQ⟩:∃Q,R*Q=4294967296:=⟨2^(32-n%32),by rw[hR,<-Nat.pow_add,show n%32+(32-n%32)=32 by omega]⟩
 have hpow:2^n=4294967296^W*R:=by rw[hR,hW,Nat.mul_comm,<-D0i]
 refine D0n s n V _
  (λ_ x _=>∃(i:Nat) (l:List Nat),x=M01.mk (i:Nat) (wv l)/\i<=s.len-W/\WB l/\l.length=s.len-W/\seg l 0 i=a / 2^n%4294967296^i)
  (λ_ x _=>(s.len-x.t6).toNat) ?_
 rw[td32,tm32,<-hW,i64w (n:=(W:Int)) (by omega) (by omega)]
 refine⟨λh=>⟨_,rfl,?_⟩,λh => ?_⟩
 . simp only[ge_iff_le,decide_eq_true_eq]at h
   have:a / 2^n=0:=by
    refine Nat.div_eq_of_lt (Nat.lt_of_lt_of_le haw ?_)
    rw[hpow]
    have h1:4294967296^s.len<=4294967296^W:=Nat.pow_le_pow_right (by omega) (by omega)
    have:=Nat.mul_le_mul_left (4294967296^W) hR0
    omega
   rw[this]; exact L00.zero V
 simp only[ge_iff_le,decide_eq_false_iff_not]at h
 rw[i64w (n:=(s.len:Int)-W) (by omega) (by omega),u64w (n:=((n%32:Nat):Int)) (by omega) (by omega),Int.toNat_natCast,E13 (show n%32<=64 by omega),<-hR]
 have hN:Int.toNat ((s.len:Int)-W)=s.len-W:=by omega
 rw[hN]
 refine⟨⟨by omega,by omega,by omega,by omega⟩,⟨0,List.replicate (s.len-W) 0,?_,by omega,WB.zeros _,by simp,?_⟩,?_⟩
 . rw[L05]; rfl
 . simp[n06,Nat.mod_one]
 rintro _ V2 hle2 ⟨i,l,rfl,hi,hwb,hl,hval⟩
 refine⟨λhp => ?_,λhp b1 V4 hle4 hb1 => ?_⟩
 . simp only[decide_eq_true_eq]at hp
   simp only[Int.toNat_natCast]
   rw[i64w (n:=(i:Int)+W) (by omega) (by omega),i64w (n:=(i:Int)+W+1) (by omega) (by omega),i64w (n:=(i:Int)+1) (by omega) (by omega)]
   have w1:=(b05 a).getD (W+i)
   have w2:=(b05 a).getD (W+i+1)
   have e1:Int.toNat ((i:Int)+W)=W+i:=by omega
   have e2:Int.toNat ((i:Int)+W+1)=W+i+1:=by omega
   have e3:(2:Int)^(min (Int.toNat 32) (u64.bits))=4294967296:=by decide
   have word:=k0w (a:=a) (W:=W) (i:=i) hQ hR0
   rw[<-hpow]at word
   have step:∀z:Nat,z=(dig a).getD (W+i) 0+4294967296*(dig a).getD (W+i+1) 0 ->
    (∃(i':Nat) (l':List Nat),M01.mk ((i:Int)+1) ((wv l).set (0+i*1) (.int .u32 (u32.wrap (Int.fdiv (z:Int) (R:Nat)))))=M01.mk (i':Nat) (wv l')/\i'<=s.len-W/\WB l'/\l'.length=s.len-W/\seg l' 0 i'=a / 2^n%4294967296^i'):=by
    intro z hz
    have ez:u32.wrap (Int.fdiv (z:Int) (R:Nat))=((a / 2^n / 4294967296^i%4294967296:Nat):Int):=by
     rw[Int.fdiv_eq_ediv_of_nonneg _ (by omega),u32m,<-word,<-hz]; rfl
    rw[ez,show 0+i*1=i by omega,S05]
    refine⟨i+1,_,rfl,by omega,hwb.set (Nat.mod_lt _ (by omega)),by simpa using hl,?_⟩
    rw[i03 (by omega) (by omega),hval,Nat.pow_succ,Nat.mod_mul,Nat.mul_comm (4294967296^i)]
   have hme:((s.len:Int)-((i:Int)+1)).toNat<((s.len:Int)-i).toNat:=by omega
   have g1:=(hs.le hle2).get (i:=(i:Int)+W) (by omega) (by omega)
   rw[e1]at g1 ⊢
   refine⟨⟨by omega,by omega,hs.isSome (by omega)⟩,_,g1,λhq => ?_,λhq => ?_⟩
   . simp only[decide_eq_true_eq]at hq
     have g2:=(hs.le hle2).get (i:=(i:Int)+W+1) (by omega) (by omega)
     rw[e2]at g2 ⊢
     refine⟨⟨by omega,by omega,hs.isSome (by omega)⟩,_,g2,by omega,⟨by omega,by omega⟩,by rw[m01]; omega,?_⟩
     rw[e3,u64w (n:=(((dig a).getD (W+i) 0:Nat):Int)) (by omega) (by omega),u64w (n:=(((dig a).getD (W+i+1) 0:Nat):Int)) (by omega) (by omega),u64w (n:=(((dig a).getD (W+i+1) 0:Nat):Int)*4294967296) (by omega) (by omega),
      show(((dig a).getD (W+i+1) 0:Nat):Int)*4294967296=(((dig a).getD (W+i+1) 0*4294967296:Nat):Int)by omega,B16 w1 w2,u64w (by omega) (by omega)]
     exact⟨step _ (by omega),hme⟩
   . simp only[decide_eq_false_iff_not]at hq
     refine⟨by omega,⟨by omega,by omega⟩,by rw[m01]; omega,?_⟩
     rw[u64w (n:=(((dig a).getD (W+i) 0:Nat):Int)) (by omega) (by omega)]
     have h0:(dig a).getD (W+i+1) 0=0:=by simp only[List.getD]; rw[List.getElem?_eq_none (by omega)]; rfl
     exact⟨step _ (by omega),hme⟩
 . simp only[decide_eq_false_iff_not]at hp
   have hi':i=s.len-W:=by omega
   subst hi'
   have hw:Y01 V4 (Sl.mk (some (Addr.mk b1 0 none)) (s.len-W) (s.len-W)) l:=Y01.of_block hb1 (by omega) (Nat.le_refl _) hwb
   refine(W04 hw (by omega)).mono λv V6 _ ⟨r,hv,hr⟩=>⟨r,hv,r,rfl,?_⟩
   rw[o08 (by omega)]at hval
   have hlt:a / 2^n<4294967296^(s.len-W):=by
    rw[hpow,<-Nat.div_div_eq_div_mul]
    refine Nat.lt_of_le_of_lt (Nat.div_le_self _ _) ?_
    rw[Nat.div_lt_iff_lt_mul (Nat.pow_pos (by omega)),<-Nat.pow_add,show s.len-W+W=s.len by omega]
    exact haw
   rw[hval,Nat.mod_eq_of_lt hlt]at hr; exact hr
theorem z17(P:Nat)(h:P<18446744073709551616):BitVec.toNat ((BitVec.ofInt u64.bits (P:Int)) &&& (BitVec.ofInt u64.bits 4294967295))=P%4294967296:=by
 rw[BitVec.toNat_and]
 have e1:(BitVec.ofInt u64.bits (P:Int)).toNat=P:=of64 h
 have e2:(BitVec.ofInt u64.bits 4294967295).toNat=2^32-1:=by decide
 rw[e1,e2,Nat.and_two_pow_sub_one_eq_mod]
structure o0t (X vN n m j g i cr bo:Nat) (u qd u0:List Nat):Prop where
 div:DivI X vN n m (j+1) u0 qd
 n2:2<=n
 nm:n<=m
 wn:wn vN=n
 g32:g<4294967296
 ge:seg u0 j (n+1) / vN<=g
 gl:(g-1)*vN<=seg u0 j (n+1)
 i_le:i<=n
 wu:WB u
 lu:u.length=m
 cr32:cr<4294967296
 bo1:bo<=1
 out:∀p,p<j\/j+i<=p->u.getD p 0=u0.getD p 0
 val:seg u j i+g*wval ((dig vN).take i)=seg u0 j i+(cr+bo)*4294967296^i
structure c0r (X vN n m j g k cr:Nat) (u qd u0 l':List Nat):Prop where
 div:DivI X vN n m (j+1) u0 qd
 n2:2<=n
 nm:n<=m
 wn:wn vN=n
 wl:WB l'
 ll:l'.length=m
 out:∀i,i<j\/j+n<i->l'.getD i 0=u0.getD i 0
 eq:seg l' j (n+1)+g*vN=seg u0 j (n+1)+4294967296^(n+1)
 g32:g<4294967296
 ge:seg u0 j (n+1) / vN<=g
 gl:(g-1)*vN<=seg u0 j (n+1)
 k_le:k<=n
 cr1:cr<=1
 wu:WB u
 lu:u.length=m
 out2:∀i,i<j\/j+k<=i->u.getD i 0=l'.getD i 0
 val:seg u j k+cr*4294967296^k=seg l' j k+seg (dig vN) 0 k
theorem o0t.jn{X vN n m j g i cr bo:Nat}{u qd u0:List Nat}(h:o0t X vN n m j g i cr bo u qd u0):j+n<m:=by
 have:=h.div.jl
 have:=h.nm
 omega
theorem c0r.jn{X vN n m j g i cr:Nat}{u qd u0 l':List Nat}(h:c0r X vN n m j g i cr u qd u0 l'):j+n<m:=by
 have:=h.div.jl
 have:=h.nm
 omega
theorem F14{vN n:Nat}(h:wn vN=n)(hn:2<=n):0<vN:=by
 rcases Nat.eq_zero_or_pos vN with h0|h0
 . subst h0; rw[U08]at h; omega
 . exact h0
theorem o0t.step{X vN n m j g i cr bo:Nat}{u qd u0:List Nat}(h:o0t X vN n m j g i cr bo u qd u0)(hi:i<n) :
 ∃low br c:Nat,u32.wrap (u64.wrap ((u64.wrap ((u64.wrap ((u.getD (j+i) 0:Nat):Int))-(u64.wrap ((BitVec.toNat ((BitVec.ofInt u64.bits (u64.wrap ((u64.wrap ((g:Int)*(u64.wrap (((dig vN).getD i 0:Nat):Int))))+(cr:Int)))) &&& (BitVec.ofInt u64.bits 4294967295)):Nat):Int))))-(bo:Int)))=(low:Int) /\
  Int.fdiv (u64.wrap ((u64.wrap ((u64.wrap ((u.getD (j+i) 0:Nat):Int))-(u64.wrap ((BitVec.toNat ((BitVec.ofInt u64.bits (u64.wrap ((u64.wrap ((g:Int)*(u64.wrap (((dig vN).getD i 0:Nat):Int))))+(cr:Int)))) &&& (BitVec.ofInt u64.bits 4294967295)):Nat):Int))))-(bo:Int))) 9223372036854775808=(br:Int) /\
  Int.fdiv (u64.wrap ((u64.wrap ((g:Int)*(u64.wrap (((dig vN).getD i 0:Nat):Int))))+(cr:Int))) 4294967296=(c:Int) /\
  o0t X vN n m j g (i+1) c br (u.set (j+i) low) qd u0:=by
 have hjn:=h.jn
 have hvi:=(b05 vN).getD i
 have hui:=h.wu.getD (j+i)
 have hlu:=h.lu
 have hc:=h.cr32
 have hm':=C0i h.g32 hvi
 have hu0:u0.getD (j+i) 0=u.getD (j+i) 0:=(h.out (j+i) (by omega)).symm
 generalize hA:(dig vN).getD i 0=A at *
 generalize hU:u.getD (j+i) 0=U at *
 obtain⟨P,hP⟩:∃P,P=g*A+cr:=⟨_,rfl⟩
 rw[u64w (n:=(A:Int)) (by omega) (by omega),<-Int.natCast_mul,u64w (n:=((g*A:Nat):Int)) (by omega) (by omega),u64w (n:=((g*A:Nat):Int)+cr) (by omega) (by omega),
  show((g*A:Nat):Int)+cr=(P:Nat)by omega,z17 P (by omega),u64w (n:=((P%4294967296:Nat):Int)) (by omega) (by omega),u64w (n:=(U:Int)) (by omega) (by omega),Int.fdiv_eq_ediv_of_nonneg (P:Int) (by omega),
  show(P:Int) / 4294967296=((P / 4294967296:Nat):Int)by omega]
 obtain⟨low,br,h1,h2,h3,h4,h5⟩:=C0e hui (Nat.mod_lt P (by omega:0<4294967296)) h.bo1
 refine⟨low,br,_,h4,h5,rfl,h.div,h.n2,h.nm,h.wn,h.g32,h.ge,h.gl,hi,h.wu.set h1,by simpa using hlu,by omega,h2,?_,?_⟩
 . intro p hp
   rw[b07,if_neg (by omega)]; exact h.out p (by omega)
 . have hval:=h.val
   rw[i03 rfl (by omega),S02,k01,hA,hu0,Nat.pow_succ]
   have h6:low+g*A+cr+bo=U+(P / 4294967296+br)*4294967296:=by
    have:=Nat.div_add_mod P 4294967296
    omega
   have h7:=congrArg (·*4294967296^i) h6
   simp only[Nat.add_mul]at h7 hval ⊢
   have h8:g*(wval (List.take i (dig vN))+A*4294967296^i)=g*wval (List.take i (dig vN))+g*A*4294967296^i:=by rw[Nat.mul_add,Nat.mul_assoc]
   have h9:∀z,z*(4294967296^i*4294967296)=z*4294967296*4294967296^i:=by intro z; grind
   rw[h8,h9,h9]
   omega
theorem o0t.last{X vN n m j g cr bo:Nat}{u qd u0:List Nat}(h:o0t X vN n m j g n cr bo u qd u0) :
 ∃low br:Nat,u32.wrap (u64.wrap ((u64.wrap ((u64.wrap ((u.getD (j+n) 0:Nat):Int))-(cr:Int)))-(bo:Int)))=(low:Int) /\
  Int.fdiv (u64.wrap ((u64.wrap ((u64.wrap ((u.getD (j+n) 0:Nat):Int))-(cr:Int)))-(bo:Int))) 9223372036854775808=(br:Int)/\(u.set (j+n) low).length=m /\
  (br=1->c0r X vN n m j g 0 0 (u.set (j+n) low) qd u0 (u.set (j+n) low)/\0<g)/\(br≠1->DivI X vN n m j (u.set (j+n) low) (qd.set j g)):=by
 have hjn:=h.jn
 have hui:=h.wu.getD (j+n)
 have hlu:=h.lu
 have hu0:u0.getD (j+n) 0=u.getD (j+n) 0:=(h.out (j+n) (by omega)).symm
 generalize hU:u.getD (j+n) 0=U at *
 obtain⟨low,br,h1,h2,h3,h4,h5⟩:=C0e hui h.cr32 h.bo1
 rw[u64w (n:=(U:Int)) (by omega) (by omega)]
 refine⟨low,br,h4,h5,?_⟩
 obtain⟨l',hl'⟩:∃l',l'=u.set (j+n) low:=⟨_,rfl⟩
 rw[<-hl']
 have hwl':WB l':=by rw[hl']; exact h.wu.set h1
 have hll':l'.length=m:=by rw[hl']; simpa using hlu
 have hout:∀p,p<j\/j+n<p->l'.getD p 0=u0.getD p 0:=by
  intro p hp
  rw[hl',b07,if_neg (by omega)]; exact h.out p (by omega)
 have hwv:=h.wn
 have hvpos:=F14 hwv h.n2
 have heq:seg l' j (n+1)+g*vN=seg u0 j (n+1)+br*4294967296^(n+1):=by
  have hval:=h.val
  rw[z01 (l:=dig vN) (Nat.le_of_eq hwv),F01]at hval
  rw[hl',i03 rfl (by omega),S02,hu0,Nat.pow_succ]
  have h7:=congrArg (·*4294967296^n) h3
  simp only[Nat.add_mul]at h7 hval
  have h9:br*(4294967296^n*4294967296)=br*4294967296*4294967296^n:=by grind
  rw[h9]
  omega
 have hlt1:=O0e hwl' j (n+1)
 refine⟨hll',λhb => ?_,λhb => ?_⟩
 . rw[hb,Nat.one_mul]at heq
   refine⟨⟨h.div,h.n2,h.nm,hwv,hwl',hll',hout,heq,h.g32,h.ge,h.gl,by omega,by omega,hwl',hll',λ_ _=>rfl,by simp[n06]⟩,?_⟩
   rcases Nat.eq_zero_or_pos g with h0|h0
   . exfalso; subst h0; omega
   . exact h0
 . have hb0:br=0:=by omega
   rw[hb0,Nat.zero_mul,Nat.add_zero]at heq
   have G9:=F0q h.div.wu h.n2 hwv h.div.lt
   have hcase:=c0n G9 h.ge h.gl
   have hvlt:vN<4294967296^n:=by rw[<-hwv]; exact o0h vN
   obtain⟨W9,hW9⟩:∃W9,W9=seg u0 j (n+1):=⟨_,rfl⟩
   rw[<-hW9]at hcase heq
   have hWm:W9%vN<vN:=Nat.mod_lt _ hvpos
   have hWd:=Nat.div_add_mod W9 vN
   have hgq:g=W9 / vN:=by
    rcases hcase with h|h
    . exact h
    . exfalso; rw[h,Nat.succ_mul,Nat.mul_comm]at heq; omega
   have hgm:g*vN=vN*(W9 / vN):=by rw[hgq,Nat.mul_comm]
   have hR:seg l' j (n+1)=W9%vN:=by omega
   refine h.div.next h.nm (R:=W9%vN) (by rw[<-hW9]; omega) hWm h.g32 hwl' hll' ?_ (a0r hR (by omega))
   exact Z0q λi _ hi=>hout i (by omega)
theorem c0r.step{X vN n m j g k cr:Nat}{u qd u0 l':List Nat}(h:c0r X vN n m j g k cr u qd u0 l')(hk:k<n) :
 ∃low c:Nat,u32.wrap (u64.wrap ((u64.wrap ((u64.wrap ((u.getD (j+k) 0:Nat):Int))+(u64.wrap (((dig vN).getD k 0:Nat):Int))))+(cr:Int)))=(low:Int) /\
  Int.fdiv (u64.wrap ((u64.wrap ((u64.wrap ((u.getD (j+k) 0:Nat):Int))+(u64.wrap (((dig vN).getD k 0:Nat):Int))))+(cr:Int))) 4294967296=(c:Int) /\
  c0r X vN n m j g (k+1) c (u.set (j+k) low) qd u0 l':=by
 have hjn:=h.jn
 have hA:=(b05 vN).getD k
 have hU:=h.wu.getD (j+k)
 have hlu:=h.lu
 have hcr:=h.cr1
 have hL:l'.getD (j+k) 0=u.getD (j+k) 0:=(h.out2 (j+k) (by omega)).symm
 generalize hA':(dig vN).getD k 0=A at *
 generalize hU':u.getD (j+k) 0=U at *
 rw[u64w (n:=(U:Int)) (by omega) (by omega),u64w (n:=(A:Int)) (by omega) (by omega),u64w (n:=(U:Int)+A) (by omega) (by omega),u64w (n:=(U:Int)+A+cr) (by omega) (by omega),Int.fdiv_eq_ediv_of_nonneg _ (by omega)]
 have K2:u32.wrap ((U:Int)+A+cr)=(((cr+U+A)%4294967296:Nat):Int):=by rw[u32m]; omega
 have K3:((U:Int)+A+cr) / 4294967296=(((cr+U+A) / 4294967296:Nat):Int):=by omega
 refine⟨_,_,K2,K3,h.div,h.n2,h.nm,h.wn,h.wl,h.ll,h.out,h.eq,h.g32,h.ge,h.gl,hk,by omega,h.wu.set (by omega),by simpa using hlu,?_,?_⟩
 . intro i hi; rw[b07,if_neg (by omega)]; exact h.out2 i (by omega)
 . have hseg:=h.val
   rw[i03 rfl (by omega),S02,S02,Nat.zero_add,hA',hL,Nat.pow_succ]
   have h6:(cr+U+A)%4294967296+(cr+U+A) / 4294967296*4294967296=cr+U+A:=by omega
   have h7:=congrArg (·*4294967296^k) h6
   simp only[Nat.add_mul]at h7 hseg ⊢
   have h9:∀z,z*(4294967296^k*4294967296)=z*4294967296*4294967296^k:=by intro z; grind
   rw[h9]
   omega
theorem c0r.last{X vN n m j g cr:Nat}{u qd u0 l':List Nat}(h:c0r X vN n m j g n cr u qd u0 l') :
 ∃low:Nat,u32.wrap (((u.getD (j+n) 0:Nat):Int)+u32.wrap (cr:Int))=(low:Int)/\DivI X vN n m j (u.set (j+n) low) (qd.set j (g-1)):=by
 have hjn:=h.jn
 have hT:=h.wu.getD (j+n)
 have hcr:=h.cr1
 have hlu:=h.lu
 have hL:l'.getD (j+n) 0=u.getD (j+n) 0:=(h.out2 (j+n) (by omega)).symm
 generalize hT':u.getD (j+n) 0=T at *
 have K1:u32.wrap ((T:Int)+u32.wrap (cr:Int))=(((T+cr)%4294967296:Nat):Int):=by rw[u32w (n:=(cr:Int)) (by omega) (by omega),u32m]; omega
 refine⟨_,K1,?_⟩
 have hwv:=h.wn
 have hvpos:=F14 hwv h.n2
 have hvlt:vN<4294967296^n:=by rw[<-hwv]; exact o0h vN
 have hlt1:=O0e h.wl j (n+1)
 have heq:=h.eq
 have hge:=h.ge
 have hgl:=h.gl
 have hW3:∃R,seg u0 j (n+1)=R+(g-1)*vN/\R<vN/\seg l' j (n+1)+vN=R+4294967296^(n+1):=by
  obtain⟨W3,hW3⟩:∃W3,W3=seg u0 j (n+1):=⟨_,rfl⟩
  rw[<-hW3]at heq hge hgl ⊢
  have h2:W3 / vN<g:=by
   rw[Nat.div_lt_iff_lt_mul hvpos]; omega
  have h3:g-1=W3 / vN:=by
   have:=(Nat.le_div_iff_mul_le hvpos).2 hgl
   omega
  have h4:=Nat.div_add_mod' W3 vN
  have h5:W3%vN<vN:=Nat.mod_lt _ hvpos
  refine⟨W3%vN,by rw[h3]; omega,h5,?_⟩
  have h6:g*vN=(g-1)*vN+vN:=by
   obtain⟨q,rfl⟩:∃q,g=q+1:=⟨g-1,by omega⟩
   rw[Nat.succ_mul,Nat.add_sub_cancel]
  rw[h3]at h6
  omega
 obtain⟨R,hR1,hR2,hR3⟩:=hW3
 have hfin:seg (u.set (j+n) ((T+cr)%4294967296)) j (n+1)=R:=by
  rw[i03 rfl (by omega)]
  rw[S02,hL]at hR3
  have hseg:=h.val
  rw[a0v vN (Nat.le_of_eq hwv)]at hseg
  exact m0w (O0e h.wu j n) (by omega) hT hcr hR3 hseg
 have hg1:g-1<4294967296:=by have:=h.g32; omega
 refine h.div.next h.nm hR1 hR2 hg1 (h.wu.set (by omega)) (by simpa using hlu) ?_ (a0r hfin (by omega))
 rw[q09 (by omega)]
 exact Z0q λi _ hi=>(h.out2 i (by omega)).trans (h.out i (by omega))
set_option maxHeartbeats 4000000 in
theorem a06{V:View}{s t:Sl}{a b:Nat}(hs:L00 V s a)(ht:L00 V t b)(ha:wn a<=2^43)(hb0:b≠0) :
 a00 prog I0a #[s.v,t.v] V λv V'=>∃q r:Sl,v = .tuple #[q.v,r.v]/\L00 V' q (a / b)/\L00 V' r (a%b):=by
 have hsl:=hs.len
 have htl:=ht.len
 obtain⟨sh,hsh⟩:∃sh,sh=32-bl ((dig b).getD (wn b-1) 0):=⟨_,rfl⟩
 obtain⟨hsh1,hwv,hlo⟩:=l0w hb0 hsh
 obtain⟨X,hX⟩:∃X,X=a*2^sh:=⟨_,rfl⟩
 obtain⟨vN,hvN⟩:∃v,v=b*2^sh:=⟨_,rfl⟩
 rw[<-hvN]at hwv hlo
 obtain⟨m,hm⟩:∃m,m=s.len+1:=⟨_,rfl⟩
 obtain⟨n,hn⟩:∃n,n=t.len:=⟨_,rfl⟩
 have hna:wn a=s.len:=hsl.symm
 have hnb:wn b=n:=by rw[hn]; exact htl.symm
 have hal:=o0h a
 rw[hna]at ha hal
 rw[hnb]at hwv hlo
 have hcmp:=Q0e hs ht (by omega)
 obtain⟨v1,hv1⟩:∃v1,v1=(dig vN).getD (n-1) 0:=⟨_,rfl⟩
 obtain⟨v2,hv2⟩:∃v2,v2=(dig vN).getD (n-2) 0:=⟨_,rfl⟩
 refine B0n s t V _
  (λc x V'=>∃(v:Sl) (j:Nat) (u qd:List Nat),c=U01.mk (sh:Nat) v (n:Nat) (m-n) (m-n)/\L00 V' v vN/\x=d02.mk ((j:Int)-1) (wv u) (wv qd)/\DivI X vN n m j u qd)
  (λ_ x _=>(x.t13+1).toNat)
  (λc x _=>∃(v:Sl) (j g:Nat) (u qd:List Nat),c=K01.mk (sh:Nat) v (n:Nat) (m-n) (m-n) (j:Nat) (wv u) (wv qd)/\x=e02.mk (g:Nat)/\g<4294967296/\seg u j (n+1) / vN<=g/\(g-1)*vN<=seg u j (n+1))
  (λc x _=>∃(v:Sl) (j g r:Nat) (u qd:List Nat),c=D01.mk (sh:Nat) v (n:Nat) (m-n) (m-n) (j:Nat) (wv u) (wv qd)/\x=L01.mk (g:Nat) (r:Nat)/\r<4294967296/\g*v1+r=u.getD (j+n) 0*4294967296+u.getD (j+n-1) 0 /\
    seg u j (n+1) / vN<=g)
  (λ_ x _=>x.t15.toNat)
  (λc x _=>∃(v:Sl) (j g i cr bo:Nat) (u qd u0:List Nat),c=f02.mk (sh:Nat) v (n:Nat) (m-n) (m-n) (j:Nat) (g:Nat)/\x=s02.mk (bo:Nat) (cr:Nat) (i:Nat) (wv u) (wv qd)/\o0t X vN n m j g i cr bo u qd u0)
  (λ_ x _=>(n-x.t19).toNat)
  (λc x _=>∃(v:Sl) (j g k cr:Nat) (u qd u0 l':List Nat),c=g02.mk (sh:Nat) v (n:Nat) (m-n) (m-n) (j:Nat) ((g-1:Nat):Int)/\x=t02.mk (cr:Nat) (k:Nat) (wv u) (wv qd)/\0<g/\c0r X vN n m j g k cr u qd u0 l')
  (λ_ x _=>(n-x.t23).toNat)
  (hcmp.mono λv V1 l1 hv=>⟨_,hv,λhlt => ?_,λhge=>⟨λh1 => ?_,λh2 => ?_⟩⟩)
 ·
   have hlt:a<b:=by
    rcases Nat.lt_or_ge a b with h|h
    . exact h
    . exfalso; revert hlt; rw[if_neg (by omega)]; split<;>simp
   exact⟨_,_,rfl,by rw[Nat.div_eq_of_lt hlt]; exact L00.zero V1,by rw[Nat.mod_eq_of_lt hlt]; exact hs.le l1⟩
 ·
   have h1:n=1:=by have:(t.len:Int)=1:=(by simpa using h1); omega
   have hb1:b<4294967296:=by have:=o0h b; rw[hnb,h1]at this; simpa using this
   have hd:(dig b).getD 0 0=b:=by rw[q0i]; simp; omega
   have hg:=(ht.le l1).get (i:=0) (by omega) (by omega)
   simp only[Int.toNat_zero,hd]at hg
   refine⟨⟨by omega,by omega,ht.isSome (by omega)⟩,_,hg,?_⟩
   refine(F0i (hs.le l1) (by omega) (by omega) hb1).mono λv V2 l2 ⟨q,hv,hq⟩=>⟨q,_,hv,?_⟩
   have hmod:a%b<b:=Nat.mod_lt _ (by omega)
   rw[u64w (by omega) (by omega)]
   refine(A07 (by omega) (by omega)).mono λv V3 l3 ⟨r,hv,hr⟩=>⟨r,hv,q,r,rfl,hq.le l3,?_⟩
   rw[Int.toNat_natCast]at hr; exact hr
 have hab:b<=a:=by
  rcases Nat.lt_or_ge a b with h|h
  . exfalso; revert hge; rw[if_pos h]; simp
  . exact h
 have hnm:n<=s.len:=by rw[<-hna,<-hnb]; exact T0b hab
 have hn0:n≠0:=by rw[<-hnb]; intro e; exact hb0 (W05.1 e)
 have hn2:2<=n:=by have:¬(t.len:Int)=1:=(by simpa using h2); omega
 have E2:i64.wrap ((s.len:Int)+1)=(m:Nat):=by rw[i64w (by omega) (by omega)]; omega
 have E3:i64.wrap ((m:Int)-(n:Int))=((m-n:Nat):Int):=by rw[i64w (by omega) (by omega)]; omega
 have E1:i64.wrap ((n:Int)-1)=((n-1:Nat):Int):=by rw[i64w (by omega) (by omega)]; omega
 have E4:i64.wrap ((n:Int)-2)=((n-2:Nat):Int):=by rw[i64w (by omega) (by omega)]; omega
 have E5:i64.wrap (((m-n:Nat):Int)-1)=((m-n:Nat):Int)-1:=by rw[i64w (by omega) (by omega)]
 have E6:(t.len:Int)=(n:Nat):=by omega
 have hblb:=D15 hb0
 have hbltop:bl ((dig b).getD (wn b-1) 0)<=32:=by
  have h3:=(t09 hb0).2.2
  have:=B0g h3
  have:=(b05 b).getD (wn b-1)
  have:=(Nat.pow_lt_pow_iff_right (a:=2) (n:=bl ((dig b).getD (wn b-1) 0)-1) (m:=32) (by omega)).1 (by omega)
  omega
 have Esh:i64.wrap (i64.wrap (32*(t.len:Int))-(bl b:Nat))=(sh:Nat):=by
  rw[i64w (n:=32*(t.len:Int)) (by omega) (by omega),i64w (by omega) (by omega)]; omega
 refine(Z03 (ht.le l1) (by omega)).mono λv V4 l4 hv=>⟨_,hv,?_⟩
 simp only[Esh]
 refine(Z05 (ht.le (View.le_trans l1 l4)) (by omega) (by omega)).mono λv V5 l5 ⟨w,hv,hw⟩=>⟨w,hv,?_⟩
 rw[<-hvN]at hw
 have hwl:w.len=n:=by have:=hw.len; simp only[wn]at hwv; omega
 simp only[E2,Int.toNat_natCast,hwl,E3,E1,E4,E5]
 refine⟨⟨by omega,by omega,by omega,by omega⟩,(Z05 (hs.le (View.le_trans l1 (View.le_trans l4 l5))) (by omega) (by omega)).mono λv V6 l6 ⟨ua,hv,hua⟩=>⟨ua,hv,?_⟩⟩
 rw[<-hX]at hua
 have hXm:wn X<=m:=by
  refine y04 ?_
  rw[hX,hm,Nat.pow_succ]
  exact Nat.mul_lt_mul'' hal (Nat.lt_of_le_of_lt (Nat.pow_le_pow_right (by omega) hsh1) (by omega))
 have hual:=hua.len
 simp only[wn]at hXm
 refine⟨wv (dig X),Y01.has hua,by rw[m01]; omega,?_,?_,?_,⟨by omega,by omega,by omega,by omega⟩,?_⟩
 . by_cases h0:ua.len=0
   . left; have:(dig X).length=0:=by omega
     rw[List.eq_nil_of_length_eq_zero this]; rfl
   . right; exact hua.isSome (by omega)
 . intro v hv; simp only[wv,List.mem_map]at hv; obtain⟨d,_,rfl⟩:=hv; rfl
 . rw[L05,m01,m01]; simp; omega
 rw[L05,L05,A10 m (dig X) (by omega)]
 have hq0:seg (dig X++List.replicate (m-(dig X).length) 0) 0 m=X:=by
  rw[o08 (by simp; omega),Q0v,F01]
 have h7:=e0t hal hm hX hsh1 (by omega) (by omega) hlo _ hq0
 refine⟨⟨w,m-n,_,_,rfl,hw.le l6,rfl,by omega,?_,by simp; omega,WB.zeros _,by simp,?_,h7⟩,?_⟩
 . intro d hd
   rcases List.mem_append.1 hd with hd|hd
   . exact b05 X d hd
   . rw[(List.mem_replicate.1 hd).2]; omega
 . rw[show m-n+n=m by omega,hq0,Nat.sub_self,n06]; simp
 rintro _ V7 hle7 ⟨w',j,u,qd,hc,hw7,rfl,hD⟩
 obtain rfl:w'=w:=by simp only[U01.mk.injEq]at hc; exact hc.2.1.symm
 have hjl:=hD.jl
 have hlu:=hD.lu
 have hlq:=hD.lq
 have hwu:=hD.wu
 simp only[p0v]
 refine⟨λhp => ?_,λhp b1 V12 l12 hb1 b2 V13 l13 hb2 => ?_⟩
 . simp only[ge_iff_le,decide_eq_true_eq]at hp
   obtain⟨i,rfl⟩:∃i,j=i+1:=⟨j-1,by omega⟩
   have e0:(((i+1:Nat):Int)-1)=(i:Nat):=by omega
   simp only[e0]
   have F1:i64.wrap ((i:Int)+(n:Int))=((i+n:Nat):Int):=by rw[i64w (by omega) (by omega)]; omega
   have F2:i64.wrap (((i+n:Nat):Int)-1)=((i+n-1:Nat):Int):=by rw[i64w (by omega) (by omega)]; omega
   have F3:i64.wrap (((i+n:Nat):Int)-2)=((i+n-2:Nat):Int):=by rw[i64w (by omega) (by omega)]; omega
   have F4:i64.wrap ((i:Int)-1)=(i:Int)-1:=by rw[i64w (by omega) (by omega)]
   simp only[F1,F2,F3,F4,Int.toNat_natCast,Nat.zero_add,Nat.mul_one]
   have G:=F0q hwu hn2 hwv hD.lt
   rw[<-hv1,<-hv2]at G
   obtain⟨W,hW⟩:∃W,W=seg u i (n+1):=⟨_,rfl⟩
   obtain⟨u2,hu2⟩:∃x,x=u.getD (i+n) 0:=⟨_,rfl⟩
   obtain⟨u1,hu1⟩:∃x,x=u.getD (i+n-1) 0:=⟨_,rfl⟩
   obtain⟨u0,hu0⟩:∃x,x=u.getD (i+n-2) 0:=⟨_,rfl⟩
   rw[<-hW,<-hu2,<-hu1,<-hu0]at G
   have hu2l:u2<4294967296:=by rw[hu2]; exact hwu.getD _
   have hv1l:=G.h1
   have hv1p:=G.pos
   have hu1l:=G.k1
   have hv1b:2147483648<=v1:=by
    have hvn0:vN≠0:=by rintro rfl; rw[U08]at hwv; omega
    have h3:=(t09 hvn0).2.1
    rw[hwv,<-hv1]at h3
    have h4:2147483648*4294967296^(n-1)<(v1+1)*4294967296^(n-1):=by omega
    have:=Nat.lt_of_mul_lt_mul_right h4
    omega
   have gv1:=(hw7).get (i:=((n-1:Nat):Int)) (by omega) (by omega)
   rw[Int.toNat_natCast,<-hv1,Nat.mul_one]at gv1
   have gv2:=(hw7).get (i:=((n-2:Nat):Int)) (by omega) (by omega)
   rw[Int.toNat_natCast,<-hv2,Nat.mul_one]at gv2
   have hws:=hw7.isSome (by omega)
   have hor:BitVec.toNat ((BitVec.ofInt u64.bits (u64.wrap ((u64.wrap (u2:Int))*4294967296))) ||| (BitVec.ofInt u64.bits (u64.wrap (u1:Int))))=u2*4294967296+u1:=by
    rw[u64w (n:=(u2:Int)) (by omega) (by omega),u64w (n:=(u1:Int)) (by omega) (by omega),u64w (by omega) (by omega),show(u2:Int)*4294967296=((u2*4294967296:Nat):Int)by omega]
    exact or64 hu1l hu2l
   refine⟨⟨by omega,by omega⟩,_,m09 (by omega),⟨by omega,by omega⟩,_,m09 (by omega),⟨by omega,by omega,hws⟩,_,gv1,?_,⟨by omega,by omega,hws⟩,_,gv1,?_,⟨?_,?_⟩,?_⟩
   . rw[u64w (by omega) (by omega)]; omega
   . rw[u64w (by omega) (by omega)]; omega
   ·
     rw[<-hu2,<-hu1,hor,u64w (n:=(v1:Int)) (by omega) (by omega),u64w (n:=((u2*4294967296+u1:Nat):Int)) (by omega) (by omega),<-Int.ofNat_tdiv,<-Int.ofNat_tmod]
     have h3:(u2*4294967296+u1) / v1<=u2*4294967296+u1:=Nat.div_le_self _ _
     have h4:(u2*4294967296+u1)%v1<v1:=Nat.mod_lt _ hv1p
     have h5:=Nat.div_add_mod' (u2*4294967296+u1) v1
     have h6:=G.init
     generalize (u2*4294967296+u1) / v1=g at *
     generalize (u2*4294967296+u1)%v1=r at *
     rw[u64w (n:=(g:Int)) (by omega) (by omega)]
     refine⟨w',i,g,r,u,qd,rfl,rfl,by omega,?_,?_⟩
     . rw[<-hu2,<-hu1]; exact h5
     . rw[<-hW]; exact h6
   ·
     rintro _ V9 l9 ⟨w2,i2,g,r,u',qd',hc2,rfl,hr,hgr,hge⟩
     simp only[D01.mk.injEq]at hc2
     obtain⟨_,rfl,_,_,_,hi2,hu',hq'⟩:=hc2
     obtain rfl:i2=i:=by omega
     obtain rfl:=i0k hu'
     obtain rfl:=i0k hq'
     rw[<-hu2,<-hu1]at hgr
     rw[<-hW]at hge
     have hgl:g<8589934592:=by
      rcases Nat.lt_or_ge g 8589934592 with h|h
      . exact h
      . exfalso
        have:=Nat.mul_le_mul h hv1b
        omega
     have gv1':=H01 l9 gv1
     have gv2':=H01 l9 gv2
     simp only
     have down:0<g->W / vN<=g-1->(4294967296<=r+v1->(g-1-1)*vN<=W/\g-1<4294967296) ->
      ((decide (((u64.wrap ((r:Int)+(u64.wrap (v1:Int)))):Int)>=4294967296))=true ->
        ∃(v:Sl) (j g':Nat) (u1 qd1:List Nat),K01.mk (sh:Nat) w' (n:Nat) (m-n) (m-n) (i2:Nat) (wv u) (wv qd)=K01.mk (sh:Nat) v (n:Nat) (m-n) (m-n) (j:Nat) (wv u1) (wv qd1)/\e02.mk (u64.wrap ((g:Int)-1))=e02.mk (g':Nat)/\g'<4294967296/\seg u1 j (n+1) / vN<=g'/\(g'-1)*vN<=seg u1 j (n+1)) /\
      ((decide (((u64.wrap ((r:Int)+(u64.wrap (v1:Int)))):Int)>=4294967296))=false ->
        (∃(v:Sl) (j g' r':Nat) (u1 qd1:List Nat),D01.mk (sh:Nat) w' (n:Nat) (m-n) (m-n) (i2:Nat) (wv u) (wv qd)=D01.mk (sh:Nat) v (n:Nat) (m-n) (m-n) (j:Nat) (wv u1) (wv qd1) /\
          L01.mk (u64.wrap ((g:Int)-1)) (u64.wrap ((r:Int)+(u64.wrap (v1:Int))))=L01.mk (g':Nat) (r':Nat)/\r'<4294967296/\g'*v1+r'=u1.getD (j+n) 0*4294967296+u1.getD (j+n-1) 0/\seg u1 j (n+1) / vN<=g') /\
        (u64.wrap ((g:Int)-1)).toNat<(g:Int).toNat):=by
      intro h0 h1 h2
      rw[u64w (n:=(v1:Int)) (by omega) (by omega),u64w (n:=(r:Int)+v1) (by omega) (by omega),u64w (n:=(g:Int)-1) (by omega) (by omega)]
      have e1:(g:Int)-1=((g-1:Nat):Int):=by omega
      have e2:(r:Int)+v1=((r+v1:Nat):Int):=by omega
      rw[e1,e2]
      refine⟨λh => ?_,λh => ?_⟩
      . simp only[ge_iff_le,decide_eq_true_eq]at h
        obtain⟨h3,h4⟩:=h2 (by omega)
        exact⟨w',i2,g-1,u,qd,rfl,rfl,h4,by rw[<-hW]; exact h1,by rw[<-hW]; exact h3⟩
      . simp only[ge_iff_le,decide_eq_false_iff_not]at h
        refine⟨⟨w',i2,g-1,r+v1,u,qd,rfl,rfl,by omega,?_,by rw[<-hW]; exact h1⟩,by omega⟩
        rw[<-hu2,<-hu1,<-hgr]
        obtain⟨k,rfl⟩:∃k,g=k+1:=⟨g-1,by omega⟩
        rw[Nat.succ_mul,Nat.add_sub_cancel]; omega
     refine⟨λhp2=>⟨λ_ => ?_,λh=>by cases h⟩,λhp2 => ?_⟩
     . simp only[ge_iff_le,decide_eq_true_eq]at hp2
       have hq:=G.quo
       refine⟨⟨by omega,by omega,hws⟩,_,gv1',?_⟩
       exact down (by omega) (by omega) (λh=>(G.brk hgr (by omega) h).symm)
     . simp only[ge_iff_le,decide_eq_false_iff_not]at hp2
       have hg32:g<4294967296:=by omega
       have hv2l:=G.h2
       have hm1:=C0i hg32 hv2l
       have hu0l:=G.k0
       refine⟨⟨by omega,by omega,hws⟩,_,gv2',⟨by omega,by omega⟩,_,m09 (by omega),?_⟩
       rw[<-hu0]
       have hor2:BitVec.toNat ((BitVec.ofInt u64.bits (u64.wrap ((r:Int)*4294967296))) ||| (BitVec.ofInt u64.bits (u64.wrap (u0:Int))))=r*4294967296+u0:=by
        rw[u64w (n:=(u0:Int)) (by omega) (by omega),u64w (by omega) (by omega),show(r:Int)*4294967296=((r*4294967296:Nat):Int)by omega]
        exact or64 hu0l hr
       rw[hor2,u64w (n:=(v2:Int)) (by omega) (by omega),<-Int.natCast_mul,u64w (n:=((g*v2:Nat):Int)) (by omega) (by omega),u64w (n:=((r*4294967296+u0:Nat):Int)) (by omega) (by omega)]
       refine⟨λhp3 => ?_,λhp3 => ?_⟩
       . simp only[gt_iff_lt,decide_eq_true_eq]at hp3
         have hd:=G.dec hgr (by omega)
         refine⟨⟨by omega,by omega,hws⟩,_,gv1',?_⟩
         have hg0:0<g:=Nat.lt_of_le_of_lt (Nat.zero_le _) hd
         exact down hg0 (Nat.le_sub_one_of_lt hd) (λh=>(G.brk hgr hg0 h).symm)
       . simp only[gt_iff_lt,decide_eq_false_iff_not]at hp3
         exact⟨w',i2,g,u,qd,rfl,rfl,hg32,by rw[<-hW]; exact hge,by rw[<-hW]; exact G.exit hgr hg32 (by omega)⟩
   ·
     rintro _ V8 l8 ⟨w2,i2,g,u',qd',hc2,rfl,hg32,hge,hgl⟩
     simp only[K01.mk.injEq]at hc2
     obtain⟨_,rfl,_,_,_,hi2,hu',hq'⟩:=hc2
     obtain rfl:i2=i:=by omega
     obtain rfl:=i0k hu'
     obtain rfl:=i0k hq'
     refine⟨⟨w',i2,g,0,0,0,u,qd,u,rfl,rfl,hD,hn2,by omega,hwv,hg32,hge,hgl,by omega,hwu,hlu,by omega,by omega,λ_ _=>rfl,by simp[n06,wval]⟩,?_⟩
     clear G hge hgl gv1 gv2 hor hq0 h7 hXm hual hua hcmp hlo hX hvN hsh hblb hbltop Esh hv1 hv2 hu2 hu1 hu0 hW
     rintro _ V10 l10 ⟨w2,i9,g9,k,c0,b0,u9,qd9,u00,hc9,rfl,hT⟩
     simp only[f02.mk.injEq]at hc9
     obtain⟨_,rfl,_,_,_,hi9,hgg⟩:=hc9
     obtain rfl:i2=i9:=by omega
     obtain rfl:g=g9:=by omega
     have hjn:=hT.jn
     have hkn:=hT.i_le
     have hlu9:=hT.lu
     have hlq9:=hT.div.lq
     have hme:((i2:Int)-1+1).toNat<(((i2+1:Nat):Int)).toNat:=by omega
     simp only[m11,Int.toNat_natCast]
     refine⟨λhp2 => ?_,λhp2 => ?_⟩
     . simp only[decide_eq_true_eq]at hp2
       have hkn:k<n:=by omega
       have K1:i64.wrap ((k:Int)+i2)=((i2+k:Nat):Int):=by rw[i64w (by omega) (by omega)]; omega
       simp only[K1,Int.toNat_natCast]
       have gk:=(hw7.le (View.le_trans l8 l10)).get (i:=(k:Nat)) (by omega) (by omega)
       simp only[Int.toNat_natCast,Nat.mul_one]at gk
       refine⟨⟨by omega,by omega,hws⟩,_,gk,⟨by omega,by omega⟩,_,m09 (by omega),⟨by omega,by omega⟩,by rw[m01]; omega,?_⟩
       obtain⟨low,br,c,e1,e2,e3,hT'⟩:=hT.step hkn
       rw[e1,e2,e3,S05,i64w (n:=(k:Int)+1) (by omega) (by omega)]
       exact⟨⟨w',i2,g,k+1,c,br,_,qd9,u00,rfl,rfl,hT'⟩,by omega⟩
     simp only[decide_eq_false_iff_not]at hp2
     obtain rfl:n=k:=by omega
     refine⟨⟨by omega,by omega⟩,_,m09 (by omega),⟨by omega,by omega⟩,by rw[m01]; omega,?_⟩
     obtain⟨low,br,e1,e2,hl',hb1,hb0⟩:=hT.last
     rw[e1,e2,S05]
     refine⟨λhn1 => ?_,λhn1 => ?_⟩
     ·
       obtain⟨hB,hg0⟩:=hb1 (by have:(br:Int)=1:=(by simpa using hn1); omega)
       rw[u64w (n:=(g:Int)-1) (by omega) (by omega),show(g:Int)-1=((g-1:Nat):Int)by omega]
       refine⟨⟨w',i2,g,0,0,_,qd9,u00,_,rfl,rfl,hg0,hB⟩,?_⟩
       clear hT hB hb1 hb0 hl' e1 e2
       rintro _ V11 l11 ⟨w3,i3,g3,k3,cr,u3,qd3,u03,l3,hc3,rfl,hg3,hB⟩
       simp only[g02.mk.injEq]at hc3
       obtain⟨_,rfl,_,_,_,hi3,hg3'⟩:=hc3
       obtain rfl:i2=i3:=by omega
       obtain rfl:g=g3:=by omega
       have hjn:=hB.jn
       have hkn:=hB.k_le
       have hlu3:=hB.lu
       have hlq3:=hB.div.lq
       simp only[Int.toNat_natCast]
       refine⟨λhp4 => ?_,λhp4 => ?_⟩
       . simp only[decide_eq_true_eq]at hp4
         have hkn:k3<n:=by omega
         have K1:i64.wrap ((k3:Int)+i2)=((i2+k3:Nat):Int):=by rw[i64w (by omega) (by omega)]; omega
         simp only[K1,Int.toNat_natCast]
         have gk:=(hw7.le (View.le_trans l8 (View.le_trans l10 l11))).get (i:=(k3:Nat)) (by omega) (by omega)
         simp only[Int.toNat_natCast,Nat.mul_one]at gk
         refine⟨⟨by omega,by omega⟩,_,m09 (by omega),⟨by omega,by omega,hws⟩,_,gk,⟨by omega,by omega⟩,by rw[m01]; omega,?_⟩
         obtain⟨low,c,e1,e2,hB'⟩:=hB.step hkn
         rw[e1,e2,S05,i64w (n:=(k3:Int)+1) (by omega) (by omega)]
         exact⟨⟨w',i2,g,k3+1,c,_,qd3,u03,l3,rfl,rfl,hg3,hB'⟩,by omega⟩
       . simp only[decide_eq_false_iff_not]at hp4
         obtain rfl:n=k3:=by omega
         refine⟨⟨by omega,by omega⟩,_,m09 (by omega),⟨by omega,by omega⟩,by rw[m01]; omega,⟨by omega,by omega⟩,by rw[m01]; omega,?_⟩
         obtain⟨low,e1,hD'⟩:=hB.last
         rw[u32w (n:=((g-1:Nat):Int)) (by omega) (by omega),e1,S05,S05]
         exact⟨⟨w',i2,_,_,rfl,hw7.le (View.le_trans l8 (View.le_trans l10 l11)),rfl,hD'⟩,hme⟩
     ·
       have hD':=hb0 (λh=>by rw[h]at hn1; simp at hn1)
       rw[u32w (n:=(g:Int)) (by omega) (by omega),S05]
       exact⟨⟨by omega,by omega⟩,by rw[m01]; omega,⟨w',i2,_,_,rfl,hw7.le (View.le_trans l8 l10),rfl,hD'⟩,hme⟩
 ·
   simp only[ge_iff_le,decide_eq_false_iff_not]at hp
   obtain rfl:j=0:=by omega
   have heq:=hD.eq
   have hlt0:=hD.lt
   rw[Nat.zero_add,Nat.pow_zero,Nat.one_mul,Nat.sub_zero]at heq
   obtain⟨hq1,hr1⟩:=n0w hX hvN hb0 heq hlt0
   have hwq:Y01 V12 (Sl.mk (some (Addr.mk b1 0 none)) (m-n) (m-n)) qd:=Y01.of_block hb1 (by omega) (Nat.le_refl _) hD.wq
   have hwr:Y01 V13 (Sl.mk (some (Addr.mk b2 0 none)) m m) u:=Y01.of_block hb2 (by omega) (Nat.le_refl _) hwu
   refine⟨⟨by omega,by omega,by omega⟩,(W04 (Y01.le l13 hwq) (by omega)).mono λv V14 l14 ⟨q,hv,hq⟩=>⟨q,hv,?_⟩⟩
   have hwr2:Y01 V14 (Sl.mk (some (Addr.mk b2 0 none)) n m) (u.take n):=Y01.le l14 (Y01.pre hwr (k:=n) (c:=m) (by omega) (by omega))
   have hl50:(u.take n).length<=2^50:=by rw[List.length_take]; omega
   have hz:Int.toNat 0=0:=rfl
   have hm0:¬m=0:=by omega
   have hadd:Option.map (λq=>Addr.add q 0) (some (Addr.mk b2 0 none))=some (Addr.mk b2 0 none):=by simp[Addr.add]
   simp only[hz,hm0,if_false,Nat.zero_mul,hadd,Nat.sub_zero]
   have htr:=W04 hwr2 hl50
   refine htr.mono λv V15 l15 ⟨r,hv,hr⟩=>⟨r,hv,?_⟩
   rw[<-C0q]at hr
   have hrw:wn (seg u 0 n)<=2^44:=by
    have:=y04 (O0e hwu 0 n)
    omega
   refine(j08 hr hrw (by omega)).mono λv V16 l16 ⟨r2,hv,hr2⟩=>⟨r2,hv,q,r2,rfl,?_,?_⟩
   . rw[<-hq1,o08 (by omega)]; exact hq.le (View.le_trans l15 l16)
   . rw[<-hr1]; exact hr2
theorem U0e{V:View}{s t:Sl}{a b:Nat}(hs:L00 V s a)(ht:L00 V t b)(ha:wn a<=2^43)(hb:wn b<=2^43) :
 a00 prog P0p #[s.v,t.v] V λv V'=>∃r:Sl,v=r.v/\L00 V' r (Nat.gcd a b):=by
 refine u0n s t V _ (λ_ x V'=>∃a' b',L00 V' x.t0 a'/\L00 V' x.t1 b'/\wn a'<=2^43/\wn b'<=2^43/\Nat.gcd a' b'=Nat.gcd a b) (λ_ x V'=>W0l V' x.t1) ⟨⟨a,b,hs,ht,ha,hb,rfl⟩,?_⟩
 rintro⟨x,y⟩ V1 l1 ⟨a',b',hx,hy,wa,wb,hg⟩
 simp only at hx hy ⊢
 have hyl:=hy.len
 refine⟨λhp => ?_,λhp => ?_⟩
 . simp only[gt_iff_lt,decide_eq_true_eq]at hp
   have hb0:b'≠0:=λe=>by rw[<-hy.len_zero]at e; omega
   refine(a06 hx hy wa hb0).mono λv V2 l2 ⟨q,r,hv,hq,hr⟩=>⟨q,r,hv,?_⟩
   have hlt:a'%b'<b':=Nat.mod_lt _ (by omega)
   have hwr:wn (a'%b')<=wn b':=T0b (Nat.le_of_lt hlt)
   refine⟨⟨b',a'%b',hy.le l2,hr,wb,by omega,?_⟩,?_⟩
   . rw[Nat.gcd_comm,<-Nat.gcd_rec,Nat.gcd_comm]; exact hg
   . rw[X0d hr,X0d hy]; exact hlt
 . simp only[gt_iff_lt,decide_eq_false_iff_not]at hp
   have hb0:b'=0:=hy.len_zero.1 (by omega)
   subst hb0
   rw[Nat.gcd_zero_right]at hg
   exact⟨x,rfl,by rw[<-hg]; exact hx⟩
theorem S03{V:View}{s:Sl}{n:Nat}(neg:Bool)(h:L00 V s n) :
 a00 prog J0a #[.bool neg,s.v] V λv V'=>∃r:WhV,v=r.val/\k03 V' r (if neg=true then -(n:Int)else n):=by
 have hl:=h.len_zero
 refine w0n neg s V _ ⟨λhn=>⟨_,rfl,?_,?_⟩,λhn=>⟨_,rfl,?_,?_⟩⟩
 . rw[if_pos hn]; simp only[gt_iff_lt,decide_eq_decide]; omega
 . rw[if_pos hn]; simpa using h
 . rw[if_neg (by simp[hn])]; symm; simp only[decide_eq_false_iff_not]; omega
 . rw[if_neg (by simp[hn])]; simpa using h
theorem b09{V:View}{n:Int}(h0 : -9223372036854775808<=n)(h1:n<=9223372036854775807) :
 a00 prog W0r #[.int .i64 n] V λv V'=>∃r:WhV,v=r.val/\k03 V' r n:=by
 refine d0q n V _ ⟨λhn => ?_,λhn => ?_⟩
 . simp only[decide_eq_true_eq]at hn
   have e:u64.wrap (i64.wrap (0-n)) = -n:=by
    by_cases hm:n = -9223372036854775808
    . subst hm; decide
    . rw[i64w (by omega) (by omega),u64w (by omega) (by omega)]; omega
   rw[e]
   refine(A07 (by omega) (by omega)).mono λv V1 _ ⟨r,hv,hr⟩=>⟨r,hv,_,rfl,by simp[hn],?_⟩
   have e2:n.natAbs=(-n).toNat:=by omega
   rw[e2]; exact hr
 . simp only[decide_eq_false_iff_not]at hn
   rw[u64w (by omega) (by omega)]
   refine(A07 (by omega) (by omega)).mono λv V1 _ ⟨r,hv,hr⟩=>⟨r,hv,_,rfl,by simp[hn],?_⟩
   have e2:n.natAbs=n.toNat:=by omega
   rw[e2]; exact hr
theorem K06{V:View}{x:WhV}{a:Int}(h:k03 V x a) :
 a00 prog O0p #[x.val] V λv V'=>∃r:WhV,v=r.val/\k03 V' r (-a):=by
 refine x0n x V _ ((S03 (!x.neg) h.2).mono λv V1 _ ⟨r,hv,hr⟩=>⟨r,hv,r,rfl,?_⟩)
 have e:(if(!x.neg)=true then -(a.natAbs:Int)else(a.natAbs:Int)) = -a:=by
  rw[h.1]; simp only[Bool.not_eq_true',decide_eq_false_iff_not]; split<;>omega
 rw[e]at hr; exact hr
theorem k08{V:View}{x y:WhV}{a b:Int}(hx:k03 V x a)(hy:k03 V y b)(ha:wn a.natAbs<=2^43)(hb:wn b.natAbs<=2^43) :
 a00 prog K0p #[x.val,y.val] V λv V'=>∃r:WhV,v=r.val/\k03 V' r (a+b):=by
 have h1:=hx.1
 have h2:=hy.1
 refine A0n x y V _ ⟨λhs => ?_,λhs => ?_⟩
 . refine(S0e hx.2 hy.2 (by omega) (by omega)).mono λv V1 l1 ⟨r,hv,hr⟩=>⟨r,hv,?_⟩
   refine(S03 x.neg hr).mono λv V2 _ ⟨w,hv,hw⟩=>⟨w,hv,w,rfl,?_⟩
   have e:(if x.neg=true then -((a.natAbs+b.natAbs:Nat):Int)else((a.natAbs+b.natAbs:Nat):Int))=a+b:=by
    rw[h1,h2]at hs; rw[h1]
    by_cases p:a<0<;>by_cases q:b<0<;>simp[p,q]at hs ⊢<;>omega
   rw[e]at hw; exact hw
 . refine(Q0e hx.2 hy.2 (by omega)).mono λv V1 l1 hv=>⟨_,hv,λhc => ?_,λhc => ?_⟩
   . have hc:b.natAbs<=a.natAbs:=by
       rcases Nat.lt_or_ge a.natAbs b.natAbs with h|h
       . rw[if_pos h]at hc; simp at hc
       . exact h
     refine(T0e (hx.2.le l1) (hy.2.le l1) (by omega) hc).mono λv V2 l2 ⟨r,hv,hr⟩=>⟨r,hv,?_⟩
     refine(S03 x.neg hr).mono λv V3 _ ⟨w,hv,hw⟩=>⟨w,hv,w,rfl,?_⟩
     have e:(if x.neg=true then -((a.natAbs-b.natAbs:Nat):Int)else((a.natAbs-b.natAbs:Nat):Int))=a+b:=by
      rw[h1,h2]at hs; rw[h1]
      by_cases p:a<0<;>by_cases q:b<0<;>simp[p,q]at hs ⊢<;>omega
     rw[e]at hw; exact hw
   . have hc:a.natAbs<=b.natAbs:=by
       rcases Nat.lt_or_ge b.natAbs a.natAbs with h|h
       . rw[if_neg (by omega),if_neg (by omega)]at hc; simp at hc
       . exact h
     refine(T0e (hy.2.le l1) (hx.2.le l1) (by omega) hc).mono λv V2 l2 ⟨r,hv,hr⟩=>⟨r,hv,?_⟩
     refine(S03 y.neg hr).mono λv V3 _ ⟨w,hv,hw⟩=>⟨w,hv,w,rfl,?_⟩
     have e:(if y.neg=true then -((b.natAbs-a.natAbs:Nat):Int)else((b.natAbs-a.natAbs:Nat):Int))=a+b:=by
      rw[h1,h2]at hs; rw[h2]
      by_cases p:a<0<;>by_cases q:b<0<;>simp[p,q]at hs ⊢<;>omega
     rw[e]at hw; exact hw
theorem M0k{V:View}{x y:WhV}{a b:Int}(hx:k03 V x a)(hy:k03 V y b)(ha:wn a.natAbs<=2^43)(hb:wn b.natAbs<=2^43) :
 a00 prog N0p #[x.val,y.val] V λv V'=>∃r:WhV,v=r.val/\k03 V' r (a-b):=by
 refine y0n x y V _ ((K06 hy).mono λv V1 l1 ⟨r,hv,hr⟩=>⟨r,hv,?_⟩)
 rw[Int.sub_eq_add_neg]
 exact(k08 (hx.le l1) hr ha (by rw[Int.natAbs_neg]; exact hb)).mono λv V2 _ ⟨w,hv,hw⟩=>⟨w,hv,w,rfl,hw⟩
theorem F04{V:View}{x y:WhV}{a b:Int}(hx:k03 V x a)(hy:k03 V y b)(ha:wn a.natAbs<=2^43)(hb:wn b.natAbs<=2^43) :
 a00 prog L0p #[x.val,y.val] V λv V'=>∃r:WhV,v=r.val/\k03 V' r (a*b):=by
 refine z0n x y V _ ((C0a hx.2 hy.2 (by omega) (by omega)).mono λv V1 l1 ⟨r,hv,hr⟩=>⟨r,hv,?_⟩)
 refine(S03 (!(x.neg==y.neg)) hr).mono λv V2 _ ⟨w,hv,hw⟩=>⟨w,hv,w,rfl,?_⟩
 have e:(if(!(x.neg==y.neg))=true then -((a.natAbs*b.natAbs:Nat):Int)else((a.natAbs*b.natAbs:Nat):Int))=a*b:=by
  rw[o0w _ _ a b rfl rfl,hx.1,hy.1]
  by_cases p:a<0<;>by_cases q:b<0<;>simp[p,q]
 rw[e]at hw; exact hw
theorem L00.lit{V:View}{b n:Nat}(h:V b=some #[.int .u32 (n:Int)])(h0:n≠0)(h1:n<4294967296):L00 V (Sl.mk (some (Addr.mk b 0 none)) 1 1) n:=by
 have e:dig n=[n]:=by
  have h2:n / 4294967296=0:=Nat.div_eq_of_lt h1
  rw[O06 h0,h2,t05,Nat.mod_eq_of_lt h1]
 unfold L00
 rw[e]
 exact Y01.of_block (by rw[h]; rfl) rfl (Nat.le_refl _) (by intro d hd; simp at hd; omega)
theorem y11:dig 1=[1]:=by rw[O06 (by omega)]; simp[t05]
theorem k03.ofNat{V:View}{s:Sl}{n:Nat}(h:L00 V s n):k03 V (WhV.mk false s) (n:Int):=⟨by simp,h⟩
theorem k06{V:View}{x y:WhV}{s:Sl}{z:Cq}{a b:Int}{d:Nat}(hx:k03 V x a)(hy:k03 V y b)(hs:L00 V s d)(hz:Rep z a b d)(ha:wn a.natAbs<=2^43)(hb:wn b.natAbs<=2^43)(hd:wn d<=2^43) :
 a00 prog E0l #[x.val,y.val,s.v] V λv V'=>∃r:NumV,v=r.val/\QAt V' r z:=by
 obtain⟨e1,e2,e3⟩:=hz.eqs
 have hp:=G0q a b hz.pos
 have d1:=t0i a b d
 have d2:=u0i a b d
 have d3:=X0l a b d
 refine s0s x y s V _ ((U0e hx.2 hy.2 ha hb).mono λv V1 l1 ⟨r1,hv,h1⟩=>⟨r1,hv,?_⟩)
 have hw1:wn (Nat.gcd a.natAbs b.natAbs)<=2^43:=by
  rcases Nat.eq_zero_or_pos a.natAbs with h|h
  . rw[h,Nat.gcd_zero_left]; exact hb
  . exact Nat.le_trans (T0b (Nat.le_of_dvd h (Nat.gcd_dvd_left _ _))) ha
 refine(U0e h1 (hs.le l1) hw1 hd).mono λv V2 l2 ⟨r2,hv,h2⟩=>⟨r2,hv,?_⟩
 have hg:Nat.gcd (Nat.gcd a.natAbs b.natAbs) d=gcd3 a b d:=rfl
 rw[hg]at h2
 have l02:=View.le_trans l1 l2
 have h2l:=h2.len
 have many:gcd3 a b d≠1->a00 prog I0a #[x.mag.v,r2.v] V2 λv V8=>∃(r11:Sl) (r12:Sl),v = .tuple #[r11.v,r12.v] /\
  a00 prog I0a #[y.mag.v,r2.v] V8 λv V9=>∃(r13:Sl) (r14:Sl),v = .tuple #[r13.v,r14.v] /\
  a00 prog I0a #[s.v,r2.v] V9 λv V10=>∃(r15:Sl) (r16:Sl),v = .tuple #[r15.v,r16.v] /\
  a00 prog J0a #[.bool x.neg,r11.v] V10 λv V11=>∃r17:WhV,v=r17.val /\
  a00 prog J0a #[.bool y.neg,r13.v] V11 λv V12=>∃r18:WhV,v=r18.val/\∃r:NumV,(NumV.mk r17 r18 r15).val=r.val/\QAt V12 r z:=by
  intro _
  refine(a06 (hx.2.le l02) h2 ha (by omega)).mono λv V4 l4 ⟨q1,m1,hv,hq1,_⟩=>⟨q1,m1,hv,?_⟩
  refine(a06 (hy.2.le (View.le_trans l02 l4)) (h2.le l4) hb (by omega)).mono λv V5 l5 ⟨q2,m2,hv,hq2,_⟩=>⟨q2,m2,hv,?_⟩
  have l45:=View.le_trans l4 l5
  refine(a06 (hs.le (View.le_trans l02 l45)) (h2.le l45) hd (by omega)).mono λv V6 l6 ⟨q3,m3,hv,hq3,_⟩=>⟨q3,m3,hv,?_⟩
  refine(S03 x.neg (hq1.le (View.le_trans l5 l6))).mono λv V7 l7 ⟨w1,hv,hw1⟩=>⟨w1,hv,?_⟩
  refine(S03 y.neg (hq2.le (View.le_trans l6 l7))).mono λv V8 l8 ⟨w2,hv,hw2⟩=>⟨w2,hv,_,rfl,?_,?_,?_⟩
  . rw[e1]
    have e:(if x.neg=true then -((a.natAbs / gcd3 a b d:Nat):Int)else((a.natAbs / gcd3 a b d:Nat):Int))=a / (gcd3 a b d:Nat):=by
     have k1:=w08 d1
     have k2:=A0e d1 hp
     rw[<-k1,hx.1]
     have k3:(a / (gcd3 a b d:Nat)<0)↔a<0:=by simpa using k2
     simp only[decide_eq_true_eq]
     split<;>omega
    rw[e]at hw1; exact hw1.le l8
  . rw[e2]
    have e:(if y.neg=true then -((b.natAbs / gcd3 a b d:Nat):Int)else((b.natAbs / gcd3 a b d:Nat):Int))=b / (gcd3 a b d:Nat):=by
     have k1:=w08 d2
     have k2:=A0e d2 hp
     rw[<-k1,hy.1]
     have k3:(b / (gcd3 a b d:Nat)<0)↔b<0:=by simpa using k2
     simp only[decide_eq_true_eq]
     split<;>omega
    rw[e]at hw2; exact hw2
  . rw[e3]; exact hq3.le (View.le_trans l7 l8)
 refine⟨λhn => ?_,λhn=>⟨λh=>absurd h (by simp),λ_ => ?_⟩⟩
 . have hn:r2.len=1:=by have:(r2.len:Int)=1:=(by simpa using hn); omega
   refine⟨⟨by omega,by omega,h2.isSome (by omega)⟩,_,h2.get (by omega) (by omega),λhw => ?_,λhw => ?_⟩
   . have hw:(dig (gcd3 a b d)).getD 0 0=1:=by have:(((dig (gcd3 a b d)).getD 0 0:Nat):Int)=1:=of_decide_eq_true (by rw[<-hw]; rfl); omega
     have hg1:gcd3 a b d=1:=by
      rw[hn]at h2l
      have h3:=F01 (gcd3 a b d)
      obtain⟨w,hw'⟩:∃w,dig (gcd3 a b d)=[w]:=List.length_eq_one_iff.1 h2l.symm
      rw[hw']at hw h3
      simp[wval]at hw h3
      omega
     rw[hg1]at e1 e2 e3
     simp only[Int.natCast_one,Int.ediv_one]at e1 e2
     rw[Nat.div_one]at e3
     exact⟨_,rfl,by rw[e1]; exact hx.le l02,by rw[e2]; exact hy.le l02,by rw[e3]; exact hs.le l02⟩
   . refine many λh => ?_
     rw[h,y11]at hw; simp at hw
 . refine many λh => ?_
   rw[h,y11]at h2l
   rw[h2l]at hn; simp at hn
theorem Y0b{V:View}{n:Int}(h0 : -9223372036854775808<=n)(h1:n<=9223372036854775807) :
 a00 prog Q09 #[.int .i64 n] V λv V'=>∃r:NumV,v=r.val/\QAt V' r ⟨(n:Rat),0⟩:=by
 obtain⟨e1,e2,e3⟩:=n0a n
 refine e0q n V _ ((b09 h0 h1).mono λv V1 _ ⟨r,hv,hr⟩=>⟨r,hv,λb V2 l2 _ hb=>⟨_,rfl,by rw[e1]; exact hr.le l2,by rw[e2]; exact k03.zero _,by rw[e3]; exact L00.lit hb (by omega) (by omega)⟩⟩)
theorem E0e{V:View}{p q d:Int}(p0 : -9223372036854775808<=p)(p1:p<=9223372036854775807)(q0 : -9223372036854775808<=q)(q1:q<=9223372036854775807)(d0 : -9223372036854775808<=d)(d1:d<=9223372036854775807)(hd:d≠0) :
 a00 prog A0x #[.int .i64 p,.int .i64 q,.int .i64 d] V λv V'=>∃r:NumV,v = .tuple #[r.val,.int .i64 0]/\QAt V' r ⟨(p:Rat) / (d:Rat),(q:Rat) / (d:Rat)⟩:=by
 refine F0u p q d V _ ⟨λh => ?_,λ_ => ?_⟩
 . exact absurd (by simpa using h) hd
 refine(b09 d0 d1).mono λv V1 l1 ⟨c,hv,hc⟩=>⟨c,hv,?_⟩
 refine(b09 p0 p1).mono λv V2 l2 ⟨a,hv,ha⟩=>⟨a,hv,?_⟩
 refine(b09 q0 q1).mono λv V3 l3 ⟨b,hv,hb⟩=>⟨b,hv,λhn => ?_,λhn => ?_⟩
 . have hneg:d<0:=by have:=hc.1; rw[hn]at this; simpa using this.symm
   refine(K06 (ha.le l3)).mono λv V4 l4 ⟨a',hv,ha'⟩=>⟨a',hv,?_⟩
   refine(K06 (hb.le l4)).mono λv V5 l5 ⟨b',hv,hb'⟩=>⟨b',hv,?_⟩
   refine(k06 (ha'.le l5) hb' (hc.2.le (View.le_trans l2 (View.le_trans l3 (View.le_trans l4 l5)))) ?_ (wn64 (by omega)) (wn64 (by omega)) (wn64 (by omega))).mono λv V6 l6 ⟨r,hv,hr⟩=>⟨r,hv,r,rfl,hr⟩
   have e:((d.natAbs:Nat):Rat) = -(d:Rat):=by
    have:(d.natAbs:Int) = -d:=by omega
    rw[<-Rat.intCast_natCast,this]; push_cast; rfl
   refine⟨by omega,?_,?_⟩<;>(simp only[e]; push_cast; rw[Rat.div_def,Rat.div_def]; grind)
 . have hpos:¬d<0:=by have:=hc.1; rw[hn]at this; simpa using this.symm
   refine(k06 (ha.le l3) hb (hc.2.le (View.le_trans l2 l3)) ?_ (wn64 (by omega)) (wn64 (by omega)) (wn64 (by omega))).mono λv V6 l6 ⟨r,hv,hr⟩=>⟨r,hv,r,rfl,hr⟩
   have e:((d.natAbs:Nat):Rat)=(d:Rat):=by
    have:(d.natAbs:Int)=d:=by omega
    rw[<-Rat.intCast_natCast,this]
   refine⟨by omega,?_,?_⟩<;>simp only[e]
theorem G0i{V:View}{x y:NumV}{z w:Cq}(hx:QAt V x z)(hy:QAt V y w)(hz:z.sz<=2^40)(hw:w.sz<=2^40) :
 a00 prog y0x #[x.val,y.val] V λv V'=>∃r:NumV,v=r.val/\QAt V' r (z+w):=by
 have zA:=Cq.wA hz; have zB:=Cq.wB hz; have zD:=Cq.wD hz
 have wA:=Cq.wA hw; have wB:=Cq.wB hw; have wD:=Cq.wD hw
 have zD':wn (z.D:Int).natAbs<=2^35:=zD
 have wD':wn (w.D:Int).natAbs<=2^35:=wD
 have s1:=s06 zA wD'; have s2:=s06 wA zD'; have s3:=s06 zB wD'; have s4:=s06 wB zD'
 have s5:=I0f s1 s2; have s6:=I0f s3 s4
 have s7:=W0d z.D w.D
 refine G0u x y V _ ((F04 hx.re (k03.ofNat hy.under) (by omega) (by omega)).mono λv V1 l1 ⟨r1,hv,h1⟩=>⟨r1,hv,?_⟩)
 replace hx:=hx.le l1; replace hy:=hy.le l1
 refine(F04 hy.re (k03.ofNat hx.under) (by omega) (by omega)).mono λv V2 l2 ⟨r2,hv,h2⟩=>⟨r2,hv,?_⟩
 replace hx:=hx.le l2; replace hy:=hy.le l2; replace h1:=h1.le l2
 refine(k08 h1 h2 (by omega) (by omega)).mono λv V3 l3 ⟨r3,hv,h3⟩=>⟨r3,hv,?_⟩
 replace hx:=hx.le l3; replace hy:=hy.le l3
 refine(F04 hx.im (k03.ofNat hy.under) (by omega) (by omega)).mono λv V4 l4 ⟨r4,hv,h4⟩=>⟨r4,hv,?_⟩
 replace hx:=hx.le l4; replace hy:=hy.le l4; replace h3:=h3.le l4
 refine(F04 hy.im (k03.ofNat hx.under) (by omega) (by omega)).mono λv V5 l5 ⟨r5,hv,h5⟩=>⟨r5,hv,?_⟩
 replace hx:=hx.le l5; replace hy:=hy.le l5; replace h3:=h3.le l5; replace h4:=h4.le l5
 refine(k08 h4 h5 (by omega) (by omega)).mono λv V6 l6 ⟨r6,hv,h6⟩=>⟨r6,hv,?_⟩
 replace hx:=hx.le l6; replace hy:=hy.le l6; replace h3:=h3.le l6
 refine(C0a hx.under hy.under (by omega) (by omega)).mono λv V7 l7 ⟨r7,hv,h7⟩=>⟨r7,hv,?_⟩
 exact(k06 (h3.le l7) (h6.le l7) h7 (z.canon.rep.add w.canon.rep) (by omega) (by omega) (by omega)).mono λv V10 _ ⟨r,hv,hr⟩=>⟨r,hv,r,rfl,hr⟩
theorem H0i{V:View}{x:NumV}{z:Cq}(hx:QAt V x z):a00 prog C0x #[x.val] V λv V'=>∃r:NumV,v=r.val/\QAt V' r (-z):=by
 obtain⟨e1,e2,e3⟩:=z.neg_eqs
 refine I0u x V _ ((K06 hx.re).mono λv V1 l1 ⟨r1,hv,h1⟩=>⟨r1,hv,?_⟩)
 exact(K06 (hx.im.le l1)).mono λv V2 l2 ⟨r2,hv,h2⟩=>⟨r2,hv,_,rfl,by rw[e1]; exact h1.le l2,by rw[e2]; exact h2,by rw[e3]; exact hx.under.le (View.le_trans l1 l2)⟩
theorem d0r{V:View}{x y:NumV}{z w:Cq}(hx:QAt V x z)(hy:QAt V y w)(hz:z.sz<=2^40)(hw:w.sz<=2^40) :
 a00 prog B0x #[x.val,y.val] V λv V'=>∃r:NumV,v=r.val/\QAt V' r (z-w):=by
 refine J0u x y V _ ((H0i hy).mono λv V1 l1 ⟨r1,hv,h1⟩=>⟨r1,hv,?_⟩)
 rw[Cq.sub_eq]
 exact(G0i (hx.le l1) h1 hz (by rw[W0f]; exact hw)).mono λv V2 _ ⟨r,hv,hr⟩=>⟨r,hv,r,rfl,hr⟩
theorem e0r{V:View}{x y:NumV}{z w:Cq}(hx:QAt V x z)(hy:QAt V y w)(hz:z.sz<=2^40)(hw:w.sz<=2^40) :
 a00 prog z0x #[x.val,y.val] V λv V'=>∃r:NumV,v=r.val/\QAt V' r (z*w):=by
 have zA:=Cq.wA hz; have zB:=Cq.wB hz; have zD:=Cq.wD hz
 have wA:=Cq.wA hw; have wB:=Cq.wB hw; have wD:=Cq.wD hw
 have s1:=s06 zA wA; have s2:=s06 zB wB; have s2':=n11 s2; have s3:=s06 zA wB; have s4:=s06 zB wA
 have s5:=I0f s1 s2'; have s6:=I0f s3 s4
 rw[<-Int.sub_eq_add_neg]at s5
 have s7:=W0d z.D w.D
 refine H0u x y V _ ((F04 hx.re hy.re (by omega) (by omega)).mono λv V1 l1 ⟨r1,hv,h1⟩=>⟨r1,hv,?_⟩)
 replace hx:=hx.le l1; replace hy:=hy.le l1
 refine(F04 hx.im hy.im (by omega) (by omega)).mono λv V2 l2 ⟨r2,hv,h2⟩=>⟨r2,hv,?_⟩
 replace hx:=hx.le l2; replace hy:=hy.le l2; replace h1:=h1.le l2
 refine(M0k h1 h2 (by omega) (by omega)).mono λv V4 l4 ⟨r4,hv,h4⟩=>⟨r4,hv,?_⟩
 replace hx:=hx.le l4; replace hy:=hy.le l4
 refine(F04 hx.re hy.im (by omega) (by omega)).mono λv V5 l5 ⟨r5,hv,h5⟩=>⟨r5,hv,?_⟩
 replace hx:=hx.le l5; replace hy:=hy.le l5; replace h4:=h4.le l5
 refine(F04 hx.im hy.re (by omega) (by omega)).mono λv V6 l6 ⟨r6,hv,h6⟩=>⟨r6,hv,?_⟩
 replace hx:=hx.le l6; replace hy:=hy.le l6; replace h4:=h4.le l6; replace h5:=h5.le l6
 refine(k08 h5 h6 (by omega) (by omega)).mono λv V7 l7 ⟨r7,hv,h7⟩=>⟨r7,hv,?_⟩
 replace hx:=hx.le l7; replace hy:=hy.le l7; replace h4:=h4.le l7
 refine(C0a hx.under hy.under (by omega) (by omega)).mono λv V10 l10 ⟨r10,hv,h10⟩=>⟨r10,hv,?_⟩
 exact(k06 (h4.le l10) (h7.le l10) h10 (z.canon.rep.mul w.canon.rep) (by omega) (by omega) (by omega)).mono λv V11 _ ⟨r,hv,hr⟩=>⟨r,hv,r,rfl,hr⟩
theorem p0t{V:View}{x:WhV}{a:Int}(h:k03 V x a):x.mag.len=0↔a=0:=by
 have:=h.2.len_zero
 rw[this]; omega
theorem s0d{V:View}{x:NumV}{z:Cq}(hx:QAt V x z):a00 prog s0u #[x.val] V λv _=>v = .int .i64 (cmpR z.re 0):=by
 have h0:=p0t hx.re
 have h1:=hx.re.1
 have hD:=z.D_pos
 have hc:cmpR z.re 0=cmpZ z.A 0:=by
  have:=B10 (A:=z.A) (A':=0) (D:=z.D) (D':=1) hD (by omega)
  rw[<-z.canon.rep.re]at this
  rw[show((0:Int):Rat) / ((1:Nat):Rat)=0 by rw[Rat.div_def]; simp]at this
  rw[<-this]; simp
 refine t0s x V _ ⟨λh => ?_,λh=>⟨λhp => ?_,λhp => ?_⟩⟩
 . have:z.A<0:=by rw[h]at h1; simpa using h1.symm
   rw[hc,b0v this]
 . have hn:¬z.A<0:=by rw[h]at h1; simpa using h1.symm
   have:x.re.mag.len≠0:=by intro e; rw[e]at hp; simp at hp
   have:z.A≠0:=λe=>this (h0.2 e)
   rw[hc,d0v (by omega)]
 . have:x.re.mag.len=0:=by have:¬(0:Int)<x.re.mag.len:=(by simpa using hp); omega
   rw[hc,c0v (h0.1 this)]
def all4:List Cq:=[⟨1,0⟩,⟨0,-1⟩,⟨-1,0⟩,⟨0,1⟩]
def q0t(n:Nat):List Cq:=(List.range n).map λj=>nth all4 (4 / n*j)
theorem U16:(⟨((1:Int):Rat),0⟩:Cq)=⟨1,0⟩:=Cq.ext' (by simp) rfl
theorem W16:(⟨((0:Int):Rat) / ((1:Int):Rat),((-1:Int):Rat) / ((1:Int):Rat)⟩:Cq)=⟨0,-1⟩:=Cq.ext' (by simp only[]; grind) (by simp only[]; grind)
theorem X16:(⟨((-1:Int):Rat),0⟩:Cq)=⟨-1,0⟩:=Cq.ext' (by simp only[]; grind) rfl
theorem Y16 : -(⟨0,-1⟩:Cq)=⟨0,1⟩:=Cq.ext' (by rw[d0e]; grind) (by rw[e0e]; grind)
theorem C0g{V:View}{n:Nat}(hn:n=1\/n=2\/n=4) :
 a00 prog l0j #[.int .i64 (n:Int)] V λv V'=>∃r:Sl,v = .tuple #[r.v,.int .i64 0]/\X08 V' r (q0t n):=by
 have hd:(4 / n)*n=4:=by rcases hn with rfl|rfl|rfl<;>rfl
 have hpos:1<=4 / n:=by rcases hn with rfl|rfl|rfl<;>decide
 have hn4:n<=4:=by omega
 have hn0:n≠0:=by omega
 have hdi:Int.tdiv 4 (n:Int)=((4 / n:Nat):Int):=by rcases hn with rfl|rfl|rfl<;>rfl
 have hw:i64.wrap (Int.tdiv 4 (n:Int))=((4 / n:Nat):Int):=by
  rw[hdi]
  refine i64w (by omega) ?_
  have:4 / n<=4:=Nat.div_le_self _ _
  omega
 have hq:4 / n<=4:=Nat.div_le_self _ _
 refine b0i (n:Int) V _ (λc x V'=>∃l,X08 V' c.t6 all4/\x.t8=(4 / n*x.t7l:Nat)/\x.t7l<=n/\n05 5 x.t7l x.t7c x.o7 l/\x08 V' l ((List.range x.t7l).map λj=>nth all4 (4 / n*j)))
  (λ_ x _=>n-x.t7l) ((Y03 (Int.natCast_nonneg _)).mono λv V1 l1 hv=>⟨_,hv,λh => ?_,λh=>⟨λh => ?_,λ_ => ?_⟩⟩)
 . exfalso
   rw[Int.toNat_natCast]at h
   rcases hn with rfl|rfl|rfl<;>exact absurd h (by decide)
 . exfalso; simp at h; omega
 refine(i0a (by omega) (by omega) (by omega) (by omega) (by omega) (by omega) (by omega)).mono λv V2 l2 ⟨r2,hv,h2⟩=>⟨r2,0,hv,?_⟩
 refine(k0k (by omega) (by omega)).mono λv V3 l3 ⟨r4,hv,h4⟩=>⟨r4,hv,?_⟩
 refine(k0k (by omega) (by omega)).mono λv V4 l4 ⟨r5,hv,h5⟩=>⟨r5,hv,?_⟩
 rw[W16]at h2
 rw[U16]at h4
 rw[X16]at h5
 refine(K0f (h2.le (View.le_trans l3 l4))).mono λv V5 l5 ⟨r6,hv,h6⟩=>⟨r6,hv,?_⟩
 rw[Y16]at h6
 intro b V6 l6 hf hb
 have hall:X08 V6 (Sl.mk (some (Addr.mk b 0 none)) 4 4) all4 :=
  G02 (o:=[.bool r4.re.neg,r4.re.mag.v,.bool r4.im.neg,r4.im.mag.v,r4.under.v]++([.bool r2.re.neg,r2.re.mag.v,.bool r2.im.neg,r2.im.mag.v,r2.under.v]++([.bool r5.re.neg,r5.re.mag.v,.bool r5.im.neg,r5.im.mag.v,r5.under.v]++([.bool r6.re.neg,r6.re.mag.v,.bool r6.im.neg,r6.im.mag.v,r6.under.v]++[]))))
   (by simpa using hb)
   ⟨_,_,rfl,rfl,⟨r4,rfl,h4.le (View.le_trans l4 (View.le_trans l5 l6))⟩,_,_,rfl,rfl,⟨r2,rfl,h2.le (View.le_trans l3 (View.le_trans l4 (View.le_trans l5 l6)))⟩,_,_,rfl,rfl,⟨r5,rfl,h5.le (View.le_trans l5 l6)⟩,_,_,rfl,rfl,⟨r6,rfl,h6.le l6⟩,rfl⟩ rfl
 refine⟨⟨[],hall,by simp,by simp,n05.nil,rfl⟩,?_⟩
 rintro⟨k,c,t,o⟩ V7 l7 ⟨l,hA,ht,hk,hlo,hin⟩
 simp only at hA ht hk hlo hin ⊢
 refine⟨λhlt => ?_,λhge => ?_⟩
 . simp only[decide_eq_true_eq]at hlt
   have hkn:k<n:=by
    rcases Nat.lt_or_ge k n with h|h
    . exact h
    . have:=Nat.mul_le_mul_left (4 / n) h
      omega
   obtain⟨hb',x,hx,hs,hnx⟩:=hA.get (t:=t) (by omega) (by simp[all4]; omega)
   refine⟨hb',x,hx,hs,λb2 V8 l8 hf8 hb8 => ?_⟩
   refine⟨l,_,hlo,X0b (l:=[.bool x.re.neg,x.re.mag.v,.bool x.im.neg,x.im.mag.v,x.under.v]) hb8,rfl,m0m x,Nat.le_trans (show k+1<=5 by omega) (show 5<=maxLen by decide),by omega,λc1 l3' hl3=>⟨by omega,⟨_,hA.le l8,?_,by omega,hl3,?_⟩,by omega⟩⟩
   . rw[hw,i64w (by omega) (by omega),ht,Nat.mul_add]; omega
   . rw[<-Q0o]
     have e3:4 / n*k=t.toNat:=by omega
     rw[e3]
     exact(hin.le l8).push (hnx.le l8)
 . simp only[decide_eq_false_iff_not]at hge
   intro b3 V9 l9 hb9
   refine⟨_,rfl,?_⟩
   have hkn:k=n:=by
    rcases Nat.lt_or_ge k n with h|h
    . have:=Nat.mul_le_mul_left (4 / n) (show k+1<=n from h)
      rw[Nat.mul_add]at this
      omega
    . omega
   subst hkn
   refine f0b hlo hb9 (hin.le l9) ?_
   simp[q0t]
theorem x0h{V:View}{p w:Sl}{m:Nat}{zs ws:List Cq}(S T:Nat)(hm:m<=6)(hz:zs.length=2^m)(hw:ws.length=2^m)(hp:X08 V p zs)(hq:X08 V w ws)
 (hS:∀i,i<2^m->(nth zs i).sz<=S) (hT:∀i,i<2^m->(nth ws i).sz<=T) (hsz:2^m*(S+T+2)<=2^39) :
 a00 prog Y0c #[p.v,w.v] V λv V'=>∃r:Sl,v = .tuple #[r.v,.int .i64 0]/\X08 V' r (o05 m zs ws):=by
 have hpl:=hp.len
 have hwl:=hq.len
 have hl:lenB w.len=true:=by
  rw[hwl,hw]
  have key:∀m∈List.range 7,lenB (2^m)=true:=by decide
  exact key m (by simp; omega)
 refine s0c p w V _ ((w0h p w).mono λv V1 l1 hv=>⟨_,hv,λh => ?_,λh => ?_⟩)
 . rw[hl]at h; simp at h; omega
 . have ne:o05 m zs ws≠[]:=by
     intro e
     have:=C06 m zs ws
     rw[e]at this; simp at this
     have:0<2^m:=Nat.pow_pos (by omega)
     omega
   exact(J0j ne (z07 m S T hm hz hw (hp.le l1) (hq.le l1) hS hT hsz)).mono λv V2 l2 ⟨r,hv,hr⟩=>⟨r,hv,r,rfl,hr⟩
def a0e(g:j02)(n:Int):Prop:=0<=g.from_/\g.from_<n/\0<=g.count/\g.count<=n
theorem I0i{V:View}{g:j02}{n:Nat}(hl:lenB n=true)(h:a0e g n) :
 a00 prog C0d #[g.val,.int .i64 (n:Int)] V λv _=>v = .int .i64 0:=by
 obtain⟨h1,h2,h3,h4⟩:=h
 refine J0c g n V _ ((Y03 (Int.natCast_nonneg _)).mono λv V1 l1 hv=>⟨_,hv,λh => ?_,λ_=>⟨λh => ?_,λ_=>⟨λh => ?_,λ_=>⟨λh => ?_,λ_=>⟨λh => ?_,λ_=>rfl⟩⟩⟩⟩⟩)
 . rw[Int.toNat_natCast,hl]at h; simp at h
 . simp at h; omega
 . simp at h; omega
 . simp at h; omega
 . simp at h; omega
theorem x0j{V:View}{g:j02}{n:Nat}(hl:lenB n=true)(h:a0e g n) :
 a00 prog A0k #[g.val,.int .i64 (n:Int)] V λv _=>v = .tuple #[(j02.mk ((g.from_+g.count)%n) (n-g.count)).val,.int .i64 0]:=by
 have hb:=B0a hl
 obtain⟨h1,h2,h3,h4⟩:=id h
 refine m0j g n V _ ((I0i hl h).mono λv V1 l1 hv=>⟨_,hv,λh => ?_,λ_=>⟨by omega,?_⟩⟩)
 . simp at h
 . rw[i64w (by omega) (by omega),i64w (by omega) (by omega),Int.tmod_eq_emod_of_nonneg (by omega)]
theorem J0i{V:View}{c:Nat}{w:List Value} :
 d0j prog x0a (λb=>(Value.slice (some ⟨b,0,none⟩) 1 c::[]:List Value)) T_u8 w V λv l _=>v = .tuple #[]/\l=w:=by
 refine a0a 0 1 c w V _ (λ_ x _=>x.t2=0/\x.t3=0/\x.o0=w) (λ_ _ _=>0) ⟨⟨rfl,(by decide:i64.wrap (((1:Nat):Int)-1)=0),rfl⟩,?_⟩
 rintro⟨a,b,o⟩ V1 l1 ⟨h1,h2,h3⟩
 dsimp only at h1 h2 h3 ⊢
 subst h1; subst h2; subst h3
 exact⟨λh=>absurd h (by simp),λ_=>⟨rfl,rfl⟩⟩
theorem W0n{V:View}{s:Sl}{n:Nat}(h:L00 V s n)(h0:0<n)(h9:n<10) :
 a00 prog X0r #[s.v] V λv _=>v = .string (ByteArray.mk #[UInt8.ofNat (48+n)]):=by
 have hl:=h.len_zero
 refine g0q s V _
  (λ_ x V'=>(L00 V' x.t0 n/\x.t3l=0/\x.t3c=0/\x.o3=[])\/(x.t0.len=0/\x.t3l=1/\n05 1 1 x.t3c x.o3 [.int .u8 ((48+n:Nat):Int)])) (λ_ x _=>x.t0.len)
  (λc x V'=>c.t0.len=0/\((x.t3l=0/\x.t3c=0/\x.t4=n/\x.t5=0/\x.o3=[])\/(x.t3l=1/\x.t4=0/\x.t5=1/\n05 1 1 x.t3c x.o3 [.int .u8 ((48+n:Nat):Int)]))) (λ_ x _=>1-x.t3l)
  ⟨λh1 => ?_,λ_=>⟨.inl ⟨h,rfl,rfl,rfl⟩,?_⟩⟩
 . exfalso; have h1:(s.len:Int)=0:=(by simpa using h1); omega
 rintro⟨t0,t3l,t3c,o3⟩ V1 l1 hI
 dsimp only at hI ⊢
 refine⟨λhp => ?_,λhz => ?_⟩
 . simp only[gt_iff_lt,decide_eq_true_eq]at hp
   rcases hI with⟨hA,rfl,rfl,rfl⟩|⟨hA,_⟩
   rotate_left
   . exfalso; omega
   have hw:wn n<=2^45:=by have:wn n<=2:=y04 (by omega); omega
   refine(S0g hA hw (d:=1000000000) (by omega) (by omega)).mono λv V2 l2 ⟨r1,hv,hr1⟩=>⟨r1,_,hv,?_⟩
   rw[Nat.div_eq_of_lt (by omega)]at hr1
   have hr0:r1.len=0:=hr1.len_zero.2 rfl
   rw[Nat.mod_eq_of_lt (by omega)]
   refine⟨⟨hr0,.inl ⟨rfl,rfl,rfl,rfl,rfl⟩⟩,?_⟩
   rintro⟨t3l,t3c,t4,t5,o3⟩ V3 l3 ⟨_,hI⟩
   dsimp only at hI ⊢
   refine⟨λh9=>⟨λh => ?_,λ_=>⟨λhpos => ?_,λhnp => ?_⟩⟩,λh9 => ?_⟩
   . exfalso; simp[hr0]at h
   . simp only[gt_iff_lt,decide_eq_true_eq]at hpos
     rcases hI with⟨rfl,rfl,rfl,rfl,rfl⟩|⟨rfl,rfl,rfl,hA⟩
     rotate_left
     . exfalso; omega
     intro b1 V4 l4 hf hb
     have ed:u8.wrap (u32.wrap (48+Int.tmod (n:Int) 10))=((48+n:Nat):Int):=by
      have e1:Int.tmod (n:Int) 10=n:=by rw[Int.tmod_eq_emod_of_nonneg (by omega)]; omega
      rw[e1,u32w (by omega) (by omega)]
      have:∀n∈List.range 10,u8.wrap (48+(n:Int))=((48+n:Nat):Int):=by decide
      exact this n (by simp; omega)
     rw[ed]at hb
     refine⟨[],[.int .u8 ((48+n:Nat):Int)],n05.nil,X0b hb,rfl,?_,by decide,by decide,λc1 l3 hl3=>⟨⟨hr0,.inr ⟨rfl,?_,?_,hl3⟩⟩,?_⟩⟩
     . intro v hv; simp at hv; subst hv; rfl
     . show u32.wrap (Int.tdiv (n:Int) 10)=0
       have e1:Int.tdiv (n:Int) 10=0:=by rw[Int.tdiv_eq_ediv_of_nonneg (by omega)]; omega
       rw[e1]; decide
     . show i64.wrap (0+1)=1
       decide
     . show 1-(0+1)<1-0
       decide
   . simp only[gt_iff_lt,decide_eq_false_iff_not]at hnp
     rcases hI with⟨rfl,rfl,rfl,rfl,rfl⟩|⟨rfl,rfl,rfl,hA⟩
     . exfalso; omega
     . exact⟨.inr ⟨hr0,rfl,hA⟩,by show r1.len<t0.len; omega⟩
   . rcases hI with⟨rfl,rfl,rfl,rfl,rfl⟩|⟨rfl,rfl,rfl,hA⟩<;>exact absurd h9 (by simp)
 . simp only[gt_iff_lt,decide_eq_false_iff_not]at hz
   rcases hI with⟨hA,rfl,rfl,rfl⟩|⟨hA,rfl,hlo⟩
   . exfalso; have:=hA.len_zero; omega
   obtain⟨o',e⟩:=hlo.split
   have hc:=hlo.le
   refine⟨⟨by rw[e]; simp,⟨by omega,trivial⟩,trivial⟩,J0i.mono λv l V7 l7 ⟨hv,hl⟩=>⟨hv,λb4 V8 l8 hb => ?_⟩⟩
   rw[hl]at hb
   refine⟨[UInt8.ofNat (48+n)],?_,rfl,rfl,rfl⟩
   have hh:=X0b hb
   intro j v hj
   refine hh j v ?_
   rw[e]
   have ev:f0z (UInt8.ofNat (48+n)) = .int .u8 ((48+n:Nat):Int):=by
    unfold f0z
    have:∀n∈List.range 10,((UInt8.ofNat (48+n)).toNat:Int)=((48+n:Nat):Int):=by decide
    rw[this n (by simp; omega)]
   cases j with
   | zero =>
     simp only[List.map_cons,List.map_nil,List.getElem?_cons_zero,Option.some.injEq]at hj
     rw[<-hj,ev]; rfl
   | succ j=>simp at hj
theorem Z16:((1+1:Nat):Int)<=i64.max:=by decide
theorem m0k{V:View}{x:WhV}{s:Sl}{a:Int}(hx:k03 V x a)(hs:L00 V s 1)(h0:a≠0)(h9:a.natAbs<10) :
 a00 prog D0x #[x.val,s.v] V λv _=>v = .string (if a<0 then ByteArray.mk #[45]++ByteArray.mk #[UInt8.ofNat (48+a.natAbs)]else ByteArray.mk #[UInt8.ofNat (48+a.natAbs)]):=by
 obtain⟨e1,e2,e3⟩:=n0a a
 have hw:wn a.natAbs<=2^43:=by have:wn a.natAbs<=2:=y04 (by omega); omega
 have hw0:wn (0:Int).natAbs<=2^43:=by have:wn 0<=2:=y04 (by omega); simp; omega
 have hw1:wn 1<=2^43:=by have:wn 1<=2:=y04 (by omega); omega
 refine K0u x s V _ ((g06 hx (k03.zero V) hs (Rep.ofInt a) hw hw0 hw1).mono λv V1 l1 ⟨r1,hv,hr⟩=>⟨r1,hv,?_⟩)
 have hre:=hr.re
 have hun:=hr.under
 rw[e1]at hre
 rw[e3,if_pos rfl]at hun
 have hul:r1.under.len=0:=hun.len_zero.2 rfl
 refine(W0n hre.2 (by omega) h9).mono λv V2 l2 hv=>⟨_,hv,λhneg=>⟨Z16,λh => ?_,λ_ => ?_⟩,λhneg=>⟨λh => ?_,λ_ => ?_⟩⟩
 . exfalso; simp[hul]at h
 . rw[hre.1]at hneg
   rw[if_pos (by simpa using hneg)]
 . exfalso; simp[hul]at h
 . rw[hre.1]at hneg
   rw[if_neg (by simpa using hneg)]
theorem z11:Go.Vc.EqAt prog z0u ((j02.mk 1 2).val) ((j02.mk 1 2).val) true:=λw=>by kernel_rfl
theorem L0y:(Cq.mk (-2) 2).A = -2/\(Cq.mk (-2) 2).B=2/\(Cq.mk (-2) 2).D=1 :=
 K0k.eqs ⟨⟨by omega,by simp only[]; rw[Rat.div_def]; grind,by simp only[]; rw[Rat.div_def]; grind⟩,by decide⟩
theorem a17:((1+1:Nat):Int)<=i64.max:=by decide
theorem b17:((1+2:Nat):Int)<=i64.max:=by decide
theorem c17:((2+3:Nat):Int)<=i64.max:=by decide
theorem X0n{V:View}{x:NumV}(h:K05 V x ⟨-2,2⟩) :
 a00 prog o0x #[x.val] V λv _=>v = .string (ByteArray.mk #[45,50,43,50,105]):=by
 obtain⟨e1,e2,e3⟩:=L0y
 have hre:=h.re
 have him:=h.im
 rw[e1]at hre
 rw[e2]at him
 refine L0u x V _ ((D0e h).mono λv V1 l1 hv=>⟨_,hv,λhr => ?_,λ_ => ?_⟩)
 . exfalso
   simp at hr
 refine(B03 (h.le l1)).mono λv V4 l4 ⟨r4,hv,h4⟩=>⟨r4,hv,?_⟩
 rw[e3]at h4
 refine(m0k (him.le (View.le_trans l1 l4)) h4 (by omega) (by decide)).mono λv V5 l5 hv=>⟨_,hv,a17,λh0 => ?_,λ_=>⟨λ_ => ?_,λhn => ?_⟩⟩
 . exfalso
   have h0:x.re.mag.len=0:=by have:(x.re.mag.len:Int)=0:=(by simpa using h0); omega
   have:=hre.2.len_zero.1 h0
   omega
 . refine⟨b17,(B03 (h.le (View.le_trans l1 (View.le_trans l4 l5)))).mono λv V6 l6 ⟨r6,hv,h6⟩=>⟨r6,hv,?_⟩⟩
   rw[e3]at h6
   refine(m0k (hre.le (View.le_trans l1 (View.le_trans l4 (View.le_trans l5 l6)))) h6 (by omega) (by decide)).mono λv V7 l7 hv=>⟨_,hv,c17,?_⟩
   rfl
 . exfalso
   rw[him.1]at hn
   exact absurd hn (by decide)
def four:List RatV:=[⟨1,0,0⟩,⟨2,0,0⟩,⟨3,0,0⟩,⟨4,0,0⟩]
theorem G15:∀r∈four,ratI r:=by
 intro r hr
 simp only[four,List.mem_cons,List.not_mem_nil,or_false]at hr
 rcases hr with rfl|rfl|rfl|rfl<;>exact⟨⟨by decide,by decide⟩,⟨by decide,by decide⟩,⟨by decide,by decide⟩⟩
theorem H15:∀i,i<2^2->(nth (four.map ratQ) i).sz<=4:=by
 decide +kernel
theorem G13:∀i,i<2^2->(nth (q0t 4) i).sz<=4:=by
 decide +kernel
theorem q0v:nth (o05 2 (four.map ratQ) (q0t 4)) 1=⟨-2,2⟩:=by
 decide +kernel
theorem y0j(V:View)(a b c:Int):ratC V [.int .i64 a,.int .i64 b,.int .i64 c] ⟨a,b,c⟩:=by unfold ratC; rfl
theorem M0y{V:View}:a00 prog O09 #[] V λv _=>v = .bool true:=by
 refine b0f V _ ((C0g (n:=4) (by omega)).mono λv V1 l1 ⟨w,hv,hw⟩=>⟨w,0,hv,?_⟩)
 intro b V2 l2 hf hb
 have hrs:Z0d V2 (Sl.mk (some (Addr.mk b 0 none)) 4 4) four :=
  G02 (o:=[.int .i64 1,.int .i64 0,.int .i64 0]++([.int .i64 2,.int .i64 0,.int .i64 0]++([.int .i64 3,.int .i64 0,.int .i64 0]++([.int .i64 4,.int .i64 0,.int .i64 0]++[]))))
   (by simpa using hb) ⟨_,_,rfl,rfl,y0j _ _ _ _,_,_,rfl,rfl,y0j _ _ _ _,_,_,rfl,rfl,y0j _ _ _ _,_,_,rfl,rfl,y0j _ _ _ _,rfl⟩ rfl
 refine(T0n hrs G15 (by decide)).mono λv V3 l3 ⟨r3,hv,h3⟩=>⟨r3,hv,?_⟩
 refine(x0h (m:=2) 4 4 (by omega) rfl rfl h3 (hw.le (View.le_trans l2 l3)) H15 G13 (by decide)).mono λv V4 l4 ⟨r4,hv,h4⟩=>⟨r4,0,hv,?_⟩
 refine(x0j (g:=j02.mk 3 2) (n:=4) (by decide) ⟨by decide,by decide,by decide,by decide⟩).mono λv V5 l5 hv=>⟨j02.mk 1 2,0,hv,?_⟩
 have hl:r4.len=4:=h4.len
 obtain⟨hb',x,hx,hs,hnx⟩:=(h4.le l5).get (t:=1) (by omega) (by show 1<4; omega)
 have e1:nth (o05 2 (four.map ratQ) (q0t 4)) (Int.toNat 1)=⟨-2,2⟩:=q0v
 rw[e1]at hnx
 refine⟨λ_=>⟨λ_=>⟨λ_=>⟨λ_=>⟨hb',x,hx,hs,(X0n hnx).mono λv V6 l6 hv=>⟨_,hv,λ_=>⟨true,z11,rfl⟩,λh => ?_⟩⟩,λh => ?_⟩,λh => ?_⟩,λh => ?_⟩,λh => ?_⟩
 . simp at h
 . simp[hl]at h
 . simp at h
 . simp at h
 . simp at h
def n0k(r:RatV):RatV:=⟨Int.tmod r.re 21,Int.tmod r.im 21,((Int.tmod r.den 6).natAbs+1:Nat)⟩
def tame(r:RatV):Prop:=(-20<=r.re/\r.re<=20)/\(-20<=r.im/\r.im<=20)/\0<=r.den/\r.den<=6
theorem tame.ok{r:RatV}(h:tame r):ratI r:=by
 obtain⟨⟨a,b⟩,⟨c,d⟩,e,f⟩:=h
 exact⟨⟨by omega,by omega⟩,⟨by omega,by omega⟩,⟨by omega,by omega⟩⟩
theorem q0g(a:Int){b:Int}(hb:0<b) : -b<Int.tmod a b/\Int.tmod a b<b:=by
 have h1:=Int.tmod_lt_of_pos a hb
 have h2:=Int.tmod_lt_of_pos (-a) hb
 rw[Int.neg_tmod]at h2
 omega
theorem y0h(r:RatV):tame (n0k r):=by
 have h1:=q0g r.re (b:=21) (by omega)
 have h2:=q0g r.im (b:=21) (by omega)
 have h3:=q0g r.den (b:=6) (by omega)
 refine⟨⟨?_,?_⟩,⟨?_,?_⟩,?_,?_⟩<;>simp only[n0k]<;>omega
theorem A11:tame ⟨0,0,0⟩:=⟨⟨by decide,by decide⟩,⟨by decide,by decide⟩,by decide,by decide⟩
theorem c0p{V:View}(r:RatV):a00 prog k0f #[r.val] V λv _=>v=(n0k r).val:=by
 have h3:=q0g r.den (b:=6) (by omega)
 refine d0f r V _ ⟨λh => ?_,λh => ?_⟩
 . simp only[decide_eq_true_eq]at h
   rw[i64w (n:=0-Int.tmod r.den 6) (by omega) (by omega),i64w (by omega) (by omega)]
   have e:0-Int.tmod r.den 6+1=(((Int.tmod r.den 6).natAbs+1:Nat):Int):=by omega
   rw[e]; rfl
 . simp only[decide_eq_false_iff_not]at h
   rw[i64w (by omega) (by omega)]
   have e:Int.tmod r.den 6+1=(((Int.tmod r.den 6).natAbs+1:Nat):Int):=by omega
   rw[e]; rfl
def rnth(rs:List RatV)(i:Nat):RatV:=rs.getD i ⟨0,0,0⟩
def p05(rs:List RatV)(n:Nat):List RatV:=(List.range n).map λi=>if rs=[]then⟨0,0,0⟩else n0k (rnth rs (i%rs.length))
theorem Y0n(rs:List RatV)(n:Nat):∀r∈p05 rs n,tame r:=by
 intro r hr
 obtain⟨i,_,rfl⟩:=List.mem_map.1 hr
 split
 . exact A11
 . exact y0h _
def c09(n k:Nat)(f:Nat->RatV):List RatV:=(List.range k).map f++List.replicate (n-k) ⟨0,0,0⟩
theorem U0g{n k:Nat}(h:k<=n)(f:Nat->RatV):(c09 n k f).length=n:=by simp[c09]; omega
theorem p0m{n k:Nat}(h:k<n)(f:Nat->RatV):(c09 n k f).set k (f k)=c09 n (k+1) f:=by
 unfold c09
 rw[List.set_append_right _ _ (by simp)]
 simp only[List.length_map,List.length_range,Nat.sub_self]
 have:n-k=(n-(k+1))+1:=by omega
 rw[this,List.replicate_succ,List.set_cons_zero,List.range_succ,List.map_append]; simp
theorem f0r{V:View}{s:Sl}{rs:List RatV}{n:Nat}(h:Z0d V s rs)(hr:rs.length<2^64)(hn:n<=2^32) :
 a00 prog D0d #[s.v,.int .i64 (n:Int)] V λv V'=>∃r:Sl,v=r.v/\Z0d V' r (p05 rs n):=by
 have hl:=h.len
 let f:Nat->RatV:=λi=>if rs=[]then⟨0,0,0⟩else n0k (rnth rs (i%rs.length))
 refine n0d s (n:Int) V _ (λ_ x V'=>0<=x.t11/\x.t11<=n/\y01 3 ratC V' x.o8 (c09 n x.t11.toNat f)) (λ_ x _=>n-x.t11.toNat) ⟨⟨by omega,by omega,by omega,by omega⟩,⟨Int.le_refl 0,Int.natCast_nonneg _,?_⟩,?_⟩
 . rw[Int.toNat_natCast]
   show y01 3 ratC V _ (c09 n 0 f)
   have e:c09 n 0 f=List.replicate n ⟨0,0,0⟩:=by simp[c09]
   rw[e]
   exact y01.replicate rfl (y0j V 0 0 0) n
 rintro⟨t,o⟩ V1 l1 ⟨h0,h1,hin⟩
 dsimp only at h0 h1 hin ⊢
 rw[Int.toNat_natCast]
 refine⟨λhlt => ?_,λhge => ?_⟩
 . simp only[decide_eq_true_eq]at hlt
   have hkn:t.toNat<n:=by omega
   have e1:i64.wrap (t+1)=t+1:=i64w (by omega) (by omega)
   have e2:(t+1).toNat=t.toNat+1:=by omega
   rw[e1]
   refine⟨λhp => ?_,λhz => ?_⟩
   . simp only[gt_iff_lt,decide_eq_true_eq]at hp
     have hm:Int.tmod t (s.len:Int)=((t.toNat%rs.length:Nat):Int):=by
      rw[Int.tmod_eq_emod_of_nonneg h0,hl]
      conv=>lhs; rw[<-Int.toNat_of_nonneg h0]
      rfl
     have hmlt:t.toNat%rs.length<rs.length:=Nat.mod_lt _ (by omega)
     rw[hm]
     obtain⟨hb,x,hx,_,hh,hs⟩:=l01.get (h.le l1) (t:=((t.toNat%rs.length:Nat):Int)) (Int.natCast_nonneg _) (z:=rnth rs (t.toNat%rs.length)) (by rw[Int.toNat_natCast]; simp[rnth,List.getD,hmlt])
     refine⟨by omega,hb,rnth rs (t.toNat%rs.length),hx▸hh,hs,(c0p _).mono λv V2 l2 hv=>⟨_,hv,⟨h0,hlt⟩,y01.room hin (by rw[U0g (by omega)]; omega),⟨by omega,by omega,?_⟩,by omega⟩⟩
     rw[e2,<-p0m hkn]
     have ef:f t.toNat=n0k (rnth rs (t.toNat%rs.length)):=by
      simp only[f]; rw[if_neg (by intro e; subst e; simp at hl; omega)]
     rw[ef]
     exact k0b (y01.imp (P:=ratC) (V:=V1) (P':=ratC) (V':=V2) (λ_ _ h=>h) hin) (by rw[U0g (by omega)]; omega) rfl (y0j V2 _ _ _)
   . simp only[gt_iff_lt,decide_eq_false_iff_not]at hz
     refine⟨⟨by omega,by omega,?_⟩,by omega⟩
     have he:rs=[]:=by apply List.eq_nil_of_length_eq_zero; omega
     rw[e2,<-p0m hkn]
     have ef:f t.toNat=⟨0,0,0⟩:=by simp only[f]; rw[if_pos he]
     rw[ef]
     have:(c09 n t.toNat f).set t.toNat ⟨0,0,0⟩=c09 n t.toNat f:=by
      apply List.ext_getElem (by simp)
      intro i g1 g2
      rw[List.getElem_set]
      split
      . rename_i e; subst e
        simp only[c09]
        rw[List.getElem_append_right (by simp)]; simp
      . rfl
     rw[this]; exact hin
 . simp only[decide_eq_false_iff_not]at hge
   intro b V3 l3 hb
   have e:t.toNat=n:=by omega
   rw[e]at hin
   have e2:c09 n n f=p05 rs n:=by simp[c09,p05,f]
   rw[e2]at hin
   exact⟨_,rfl,G02 hb (y01.imp (P:=ratC) (V:=V1) (P':=ratC) (V':=V3) (λ_ _ h=>h) hin) (by simp[p05])⟩
theorem s0g:∀m∈List.range 7,lenB (2^m)=true:=by decide
theorem H13:(⟨((0:Int):Rat) / ((1:Int):Rat),((0:Int):Rat) / ((1:Int):Rat)⟩:Cq)=Cq.zero:=Cq.ext' (by simp[Rat.div_def]; rfl) (by simp[Rat.div_def]; rfl)
theorem d0p{V:View}{k n:Nat}(b:Int)(hk:k<n)(hn:n<=2^40) :
 a00 prog l0f #[.int .i64 (k:Int),.int .i64 b,.int .i64 (n:Int)] V λv _=>v = .int .i64 (((k+modB b n)%n:Nat):Int):=by
 obtain⟨h1,h2⟩:=F10 b hk hn
 refine c0f _ b _ V _ ⟨by omega,λh=>⟨by omega,?_⟩,λh=>⟨by omega,?_⟩⟩
 . rw[h1 h]
 . rw[h2 h]
theorem F0e{V:View}(n:Int):a00 prog Y0e #[.int .i64 n] V λv _=>v = .bool (lenB n.toNat):=by
 refine u0e n V _ (λ_ x _=>∃j:Nat,x.t3=((2^j:Nat):Int)/\j<=7/\∀i,i<j->n≠((2^i:Nat):Int)) (λ_ x _=>(128-x.t3).toNat) ⟨⟨0,rfl,by omega,λi hi=>by omega⟩,?_⟩
 rintro⟨t⟩ V1 l1 ⟨j,rfl,hj,hne⟩
 dsimp only
 have hp:2^j<=2^7:=Nat.pow_le_pow_right (by omega) hj
 have hp1:1<=2^j:=Nat.pow_pos (by omega)
 refine⟨λhle=>⟨λhe => ?_,λhe => ?_⟩,λhgt => ?_⟩
 . simp only[decide_eq_true_eq]at hle
   have he:n=((2^j:Nat):Int):=by simpa using he
   rw[he,Int.toNat_natCast]
   have hj6:j<=6:=by
    rcases Nat.lt_or_ge j 7 with h|h
    . omega
    . have:j=7:=by omega
      subst this
      exfalso; revert hle; decide
   rw[s0g j (by simp; omega)]
 . have he:n≠((2^j:Nat):Int):=by simpa using he
   have e2:((2^j:Nat):Int)*2=((2^(j+1):Nat):Int):=by rw[Nat.pow_succ]; omega
   simp only[decide_eq_true_eq]at hle
   rw[e2,i64w (by omega) (by rw[Nat.pow_succ]; omega)]
   have hj6:j<=6:=by
    rcases Nat.lt_or_ge j 7 with h|h
    . omega
    . have:j=7:=by omega
      subst this
      exfalso; revert hle; decide
   refine⟨⟨j+1,rfl,by omega,λi hi => ?_⟩,by rw[Nat.pow_succ]; omega⟩
   rcases Nat.lt_or_ge i j with h|h
   . exact hne i h
   . have:i=j:=by omega
     subst this; exact he
 . simp only[decide_eq_false_iff_not]at hgt
   have hj7:j=7:=by
    rcases Nat.lt_or_ge j 7 with h|h
    . have:2^j<=2^6:=Nat.pow_le_pow_right (by omega) (by omega)
      omega
    . omega
   subst hj7
   have:lenB n.toNat=false:=by
    cases hb:lenB n.toNat with
    | false=>rfl
    | true =>
      exfalso
      obtain⟨h1,h2⟩:=B0a hb
      have hmem:n.toNat∈[1,2,4,8,16,32,64]:=by
       unfold lenB at hb; exact List.contains_iff_mem.1 hb
      have hn:n=(n.toNat:Int):=by omega
      simp only[List.mem_cons,List.not_mem_nil,or_false]at hmem
      rcases hmem with h|h|h|h|h|h|h
      . exact hne 0 (by omega) (by rw[hn,h])
      . exact hne 1 (by omega) (by rw[hn,h])
      . exact hne 2 (by omega) (by rw[hn,h])
      . exact hne 3 (by omega) (by rw[hn,h])
      . exact hne 4 (by omega) (by rw[hn,h])
      . exact hne 5 (by omega) (by rw[hn,h])
      . exact hne 6 (by omega) (by rw[hn,h])
   rw[this]
theorem G0e(x:Nat):N07 prog W0h #[.float .f64 x] (.int .u64 (x:Int)):=λw=>by kernel_rfl
theorem H0e(x:Nat):N07 prog N06 #[.int .u64 (x:Int)] (.float .f64 x):=λw=>by kernel_rfl
theorem e0p{V:View}{x:Nat}(h:x<2^64):a00 prog U0r #[.float .f64 x] V λv _=>v = .bool (decide (¬okW x)):=by
 refine s0q x V _ ?_
 by_cases c:okW x
 . rw[U0b c c,decide_eq_false (λz=>z c)]
   have:compare (key x) (key x) = .eq:=by
    show compareOfLessAndEq _ _=_
    unfold compareOfLessAndEq; rw[if_neg (by omega),if_pos rfl]
   rw[this]; rfl
 . have:infR<x%2^63:=by unfold okW at c; omega
   rw[s0h this,decide_eq_true c]; rfl
theorem z0j:okW 9218868437227405311/\key 9218868437227405311=(infR:Int)-1:=by decide
theorem B11{x:Nat}(h:okW x) : -(infR:Int)<=key x/\key x<=(infR:Int):=by
 obtain⟨h1,h2⟩:=h
 unfold key infR at *; split<;>omega
theorem q0w{V:View}{x:Nat}(h:x<2^64):a00 prog m0f #[.float .f64 x,.int .i64 1] V λv _=>v = .bool (decide (okW x/\key x=(infR:Int))):=by
 refine w0e x 1 V _ ⟨λh=>absurd h (by simp),λ_=>⟨λh=>absurd h (by simp),λ_ => ?_⟩⟩
 by_cases c:okW x
 . have:=B11 c
   rw[K10 c z0j.1,z0j.2]
   congr 2; apply propext; constructor
   . intro z; exact⟨c,by omega⟩
   . intro z; omega
 . have:infR<x%2^63:=by unfold okW at c; omega
   rw[s0h this,decide_eq_false (λz=>c z.1)]; rfl
theorem f0p{V:View}{x:Nat}(h:x<2^64):a00 prog m0f #[.float .f64 x,.int .i64 (-1)] V λv _=>v = .bool (decide (okW x/\key x = -(infR:Int))):=by
 refine w0e x (-1) V _ ⟨λh=>absurd h (by simp),λ_=>⟨λ_ => ?_,λh=>absurd h (by simp)⟩⟩
 by_cases c:okW x
 . have:=B11 c
   obtain⟨n1,n2⟩:=D0f c
   rw[K10 n1 z0j.1,z0j.2,n2]
   congr 2; apply propext; constructor
   . intro z; exact⟨c,by omega⟩
   . intro z; omega
 . have h2:infR<x%2^63:=by unfold okW at c; omega
   have h3:infR<(Op.negFloat .f64 x)%2^63:=by rw[Z0a h]; split<;>omega
   rw[s0h h3,decide_eq_false (λz=>c z.1)]; rfl
theorem g0p{V:View}:a00 prog I0d #[.int .i64 1] V λv _=>v = .float .f64 infR :=
 N0l 1 V _ ⟨λ_=>⟨infR,H0e infR,rfl⟩,λh=>absurd h (by simp)⟩
theorem s0w{V:View}:a00 prog I0d #[.int .i64 (-1)] V λv _=>v = .float .f64 18442240474082181120 :=
 N0l (-1) V _ ⟨λh=>absurd h (by simp),λ_=>⟨18442240474082181120,H0e 18442240474082181120,rfl⟩⟩
theorem C11{x:Nat}(hx:x<18446744073709551616):(BitVec.ofInt 64 (x:Int)).toNat=x:=by
 rw[BitVec.toNat_ofInt]; omega
theorem A0j{x:Nat}(hx:x<2^64):(BitVec.ofInt u64.bits (x:Int)).toNat=x:=C11 (by omega)
theorem d09{y:Nat}(hy:y<2^64):u64.wrap (y:Int)=(y:Int):=u64w (by omega) (by omega)
theorem D11{x m:Nat}(hx:x<2^64)(hm:m<2^64):u64.wrap (BitVec.toNat ((BitVec.ofInt u64.bits (x:Int)) &&& ~~~(BitVec.ofInt u64.bits (m:Int))))=((x &&& (2^64-1-m):Nat):Int):=by
 have h2:x &&& (2^64-1-m)<=x:=Nat.and_le_left
 have e3:(~~~(BitVec.ofInt u64.bits (m:Int))).toNat=2^64-1-m:=by
  rw[BitVec.toNat_not,A0j hm]; rfl
 rw[BitVec.toNat_and,A0j hx,e3]
 exact d09 (by omega)
theorem i0p{x m:Nat}(hx:x<2^64)(hm:m<2^64):u64.wrap (BitVec.toNat ((BitVec.ofInt u64.bits (x:Int)) ||| (BitVec.ofInt u64.bits (m:Int))))=((x ||| m:Nat):Int):=by
 rw[BitVec.toNat_or,A0j hx,A0j hm]
 exact d09 (Nat.or_lt_two_pow hx hm)
theorem t0w{V:View}{x:Nat}(h:x<2^64):a00 prog H0x #[.float .f64 x] V λv _=>v = .float .f64 (x%2^63):=by
 refine O0u x V _ ⟨x,G0e x,x%2^63,?_,rfl⟩
 have e:=D11 (x:=x) (m:=2^63) h (by omega)
 have e2:x &&& (2^64-1-2^63)=x%2^63:=Nat.and_two_pow_sub_one_eq_mod x 63
 rw[e2]at e
 have e3:(((2^63:Nat):Int))=9223372036854775808:=by decide
 rw[e3]at e
 rw[e]; exact H0e _
theorem s0t{V:View}{x:Nat}(h:okW x):a00 prog m0f #[.float .f64 x,.int .i64 0] V λv _=>v = .bool (decide (x%2^63=infR)):=by
 refine w0e x 0 V _ ⟨λ_=>(t0w h.1).mono λv V1 _ hv=>⟨_,hv,?_⟩,λh=>absurd h (by simp)⟩
 have h2:=h.2
 have ok:okW (x%2^63):=⟨by omega,by omega⟩
 rw[K10 ok z0j.1,z0j.2]
 have:key (x%2^63)=((x%2^63:Nat):Int):=by unfold key; rw[if_pos (by omega)]
 rw[this]
 congr 2; apply propext; omega
theorem q0m{w:Nat}(h:w<2^63):key w=(w:Int):=by unfold key; rw[if_pos h]
theorem E11{x:Nat}(hx:x<2^63):x &&& (2^64-1-9218868437227405312)=x%2^52:=by
 have hM:2^64-1-9218868437227405312=2^52*2^11+(2^52-1):=by decide
 rw[hM]
 have h1:(x &&& (2^52*2^11+(2^52-1)))%2^52=x%2^52:=by
  rw[Nat.and_mod_two_pow,Nat.mul_add_mod,Nat.mod_eq_of_lt (by omega:2^52-1<2^52),Nat.and_two_pow_sub_one_eq_mod,Nat.mod_mod]
 have h2:(x &&& (2^52*2^11+(2^52-1))) / 2^52=0:=by
  rw[Nat.and_div_two_pow]
  have e:(2^52*2^11+(2^52-1)) / 2^52=2^11:=by decide
  rw[e]
  apply Nat.eq_of_testBit_eq
  intro i
  rw[Nat.testBit_and,Nat.testBit_two_pow,Nat.zero_testBit]
  by_cases c:11=i
  . subst c
    rw[Nat.testBit_lt_two_pow (by omega:x / 2^52<2^11)]; rfl
  . rw[decide_eq_false c,Bool.and_false]
 omega
theorem F11{x m e k:Nat}(hw:x=e*2^52+m)(he:e<=2045)(h1:2^52<=m)(h2:m<2^53)(hk:k<=2045) :
 u64.wrap (BitVec.toNat ((BitVec.ofInt u64.bits (u64.wrap (BitVec.toNat ((BitVec.ofInt u64.bits (x:Int)) &&& ~~~(BitVec.ofInt u64.bits 9218868437227405312))))) ||| (BitVec.ofInt u64.bits (u64.wrap ((u64.wrap ((k+1:Nat):Int))*2^(min (Int.toNat 52) (u64.bits)))))))=((k*2^52+m:Nat):Int):=by
 have hx:x<2^63:=by omega
 have a:=D11 (x:=x) (m:=9218868437227405312) (by omega) (by omega)
 rw[E11 hx]at a
 have am:x%2^52=m-2^52:=by omega
 rw[am]at a
 have a9:(((9218868437227405312:Nat)):Int)=9218868437227405312:=rfl
 rw[a9]at a
 rw[a]
 have hp:(2:Int)^(min (Int.toNat 52) u64.bits)=((2^52:Nat):Int):=by decide
 have e3:u64.wrap (u64.wrap ((k+1:Nat):Int)*((2^52:Nat):Int))=(((k+1)*2^52:Nat):Int):=by
  rw[d09 (y:=k+1) (by omega),<-Int.natCast_mul,d09 (by omega)]
 rw[hp,e3,i0p (by omega) (by omega)]
 congr 1
 have hor:=Nat.two_pow_add_eq_or_of_lt (i:=52) (b:=m-2^52) (by omega) (k+1)
 rw[Nat.or_comm,Nat.mul_comm (k+1),<-hor]; omega
theorem d17{n m e t k b c d:Nat}(hv:m*2^e=n*2^c)(h1:k+d=e+t)(h2:52+c=b+d):2^52*m*2^k=n*2^t*2^b:=by
 refine Nat.eq_of_mul_eq_mul_right (Nat.pow_pos (by omega):0<2^d) ?_
 have e1:2^52*m*2^k*2^d=2^52*(m*2^e)*2^t:=by
  rw[Nat.mul_assoc (2^52*m),<-Nat.pow_add,h1,Nat.pow_add]; ac_rfl
 have e2:n*2^t*2^b*2^d=n*2^t*(2^52*2^c):=by
  rw[Nat.mul_assoc (n*2^t),<-Nat.pow_add,<-Nat.pow_add,h2]
 rw[e1,e2,hv]; ac_rfl
theorem I13:Ieee.double.read 4607182418800017408 = .number false (2^52) (-52):=by decide +kernel
theorem G11:Ieee.double.read 4368491638549381120 = .number false (2^52) (-105):=by decide +kernel
theorem j0p{V:View}{n r:Nat}{s:Int}(h0:n≠0)(hn:n<=2^53)(s0 : -1074<=s)(s1:s<=2^40)(hr:r<infR)(h:rm r=n*2^(s+1074).toNat) :
 a00 prog W0j #[.float .f64 (FloatKind.f64.nearest (n:Int)),.int .i64 s] V λv _=>v = .float .f64 r:=by
 obtain⟨e,m,hw,m1,m2,hv,e0,e1⟩:=S0s h0 hn
 generalize FloatKind.f64.nearest (n:Int)=x at hw
 have hx63:x<2^63:=by omega
 have hmod:x%2^63=x:=Nat.mod_eq_of_lt hx63
 have hxi:x<infR:=by unfold infR; omega
 have hok:okW x:=⟨by omega,by omega⟩
 have hkey:key x=(x:Int):=q0m hx63
 have hdiv:x / 2^52=e+1:=by omega
 have hmd:x%2^52=m-2^52:=by omega
 have hnl:=N16 h hr h0
 have hlm:n.log2+52=e-1022+52:=by
  have a1:=((X0k (n:=m) (k:=e) (by omega)).symm.trans (congrArg Nat.log2 hv)).trans (X0k (n:=n) (k:=1074) h0)
  have a2:m.log2=52:=(Nat.log2_eq_iff (by omega)).2 ⟨m1,m2⟩
  omega
 have hs:s<=1023:=by omega
 refine k0i x s V _ ⟨λh=>absurd h (by simp),λ_ => ?_⟩
 refine a00.mono (j0i x s V (λv _=>v = .float .f64 r) ⟨λhz => ?_,λ_ => ?_⟩) (λv V1 _ hv=>⟨r,hv,rfl⟩)
 . exfalso
   rw[e0m hok (by decide),hkey]at hz
   have:key 0=0:=by decide
   rw[this]at hz
   simp only[decide_eq_true_eq]at hz
   omega
 refine(s0t hok).mono λv V1 l1 hv1=>⟨_,hv1,λhc => ?_,λ_ => ?_⟩
 . exfalso; simp only[decide_eq_true_eq]at hc; omega
 refine(e0p (by omega:x<2^64)).mono λv V2 l2 hv2=>⟨_,hv2,λhc => ?_,λ_ => ?_⟩
 . exfalso; simp only[decide_eq_true_eq]at hc; exact hc hok
 have hnorm:a00 prog C0k #[.float .f64 x] V2 λv _=>v = .tuple #[.float .f64 x,.int .i64 0]:=by
  refine n0j x V2 _ ((t0w (by omega:x<2^64)).mono λv V3 l3 hv3=>⟨_,hv3,λhc => ?_,λ_=>rfl⟩)
  exfalso
  rw[hmod,B14 hok (by decide),hkey]at hc
  have:key 4503599627370496=4503599627370496:=by decide
  rw[this]at hc
  simp only[decide_eq_true_eq]at hc
  omega
 refine hnorm.mono λv V3 l3 hv3=>⟨x,0,hv3,x,G0e x,?_⟩
 have hE:i64.wrap (i64.wrap (s+0)+i64.wrap (i64.wrap (BitVec.toNat ((BitVec.ofInt i64.bits (i64.wrap (Int.fdiv (x:Int) (2^(min (Int.toNat 52) u64.bits))))) &&& (BitVec.ofInt i64.bits 2047)))-1023))=s+(e:Int)-1022:=by
  have hp:(2:Int)^(min (Int.toNat 52) u64.bits)=((2^52:Nat):Int):=by decide
  have hd:Int.fdiv (x:Int) ((2^52:Nat):Int)=((e+1:Nat):Int):=by
   rw[Int.fdiv_eq_ediv_of_nonneg _ (by omega),<-Int.natCast_ediv,hdiv]
  rw[hp,hd,i64w (n:=((e+1:Nat):Int)) (by omega) (by omega),BitVec.toNat_and]
  have b1:(BitVec.ofInt i64.bits ((e+1:Nat):Int)).toNat=e+1:=C11 (by omega)
  have b2:(BitVec.ofInt i64.bits 2047).toNat=2^11-1:=by decide
  rw[b1,b2,Nat.and_two_pow_sub_one_eq_mod,Nat.mod_eq_of_lt (by omega),i64w (n:=((e+1:Nat):Int)) (by omega) (by omega),i64w (n:=((e+1:Nat):Int)-1023) (by omega) (by omega),i64w (n:=s+0) (by omega) (by omega),i64w (by omega) (by omega)]
  omega
 rw[hE]
 refine⟨λhc => ?_,λ_=>⟨λhc => ?_,λ_=>⟨λhc => ?_,λhc => ?_⟩⟩⟩
 . exfalso; simp only[decide_eq_true_eq]at hc; omega
 . exfalso; simp only[decide_eq_true_eq]at hc; omega
 . simp only[decide_eq_true_eq]at hc
   obtain⟨k,hk⟩:∃k:Nat,(k:Int)=s+e+53:=⟨(s+e+53).toNat,by omega⟩
   have hk5:k<=2045:=by omega
   have w1:i64.wrap (i64.wrap (s+(e:Int)-1022+53)+1023)=((k+1:Nat):Int):=by
    rw[i64w (n:=s+(e:Int)-1022+53) (by omega) (by omega),i64w (by omega) (by omega)]; omega
   rw[w1,F11 hw (by omega) m1 m2 hk5]
   refine⟨_,H0e _,r,Q0s G11 (P0s hk5 m1 m2) hr (by omega) (by omega) (a:=k) (b:=105) (by omega) ?_,rfl⟩
   rw[h]
   exact d17 (d:=1021) hv (by omega) (by omega)
 . simp only[decide_eq_false_iff_not]at hc
   obtain⟨k,hk⟩:∃k:Nat,(k:Int)=s+e:=⟨(s+e).toNat,by omega⟩
   have hk5:k<=2045:=by omega
   have w1:i64.wrap (s+(e:Int)-1022+1023)=((k+1:Nat):Int):=by
    rw[i64w (by omega) (by omega)]; omega
   rw[w1,F11 hw (by omega) m1 m2 hk5]
   refine⟨_,H0e _,r,Q0s I13 (P0s hk5 m1 m2) hr (by omega) (by omega) (a:=k) (b:=52) (by omega) ?_,rfl⟩
   rw[h]
   exact d17 (d:=1074) hv (by omega) (by omega)
theorem N0y{V:View}{s:Int}:a00 prog W0j #[.float .f64 (FloatKind.f64.nearest 0),.int .i64 s] V λv _=>v = .float .f64 0:=by
 rw[L0k]
 refine k0i 0 s V _ ⟨λh=>absurd h (by simp),λ_ => ?_⟩
 refine a00.mono (j0i 0 s V (λv _=>v = .float .f64 0) ⟨λ_=>rfl,λhz => ?_⟩) (λv V1 _ hv=>⟨0,hv,rfl⟩)
 exfalso; revert hz; decide
structure BqAt (V:View) (b:BdV) (e:Eb):Prop where
 inf:b.inf=e.inf
 num:QAt V b.x e.num
 ok:e.ok
theorem BqAt.le{V V':View}{b:BdV}{e:Eb}(hle:V.le V')(h:BqAt V b e):BqAt V' b e:=⟨h.inf,h.num.le hle,h.ok⟩
theorem J13(a b:Rat):(⟨a,0⟩:Cq)*⟨b,0⟩=⟨a*b,0⟩:=Cq.ext' (by rw[Y0m]; grind) (by rw[Z0m]; grind)
theorem u0w(a b:Rat):(⟨a,0⟩:Cq)+⟨b,0⟩=⟨a+b,0⟩:=Cq.ext' (by rw[S0f]) (by rw[T0f]; grind)
theorem K13(a b:Rat):(⟨a,0⟩:Cq) - ⟨b,0⟩=⟨a-b,0⟩:=Cq.ext' (by rw[W0m]) (by rw[X0m]; grind)
theorem w0w(a:Rat) : -(⟨a,0⟩:Cq)=⟨-a,0⟩:=Cq.ext' (by rw[d0e]) (by rw[e0e]; grind)
theorem B07{V:View}{x:NumV}{q:Rat}(hx:QAt V x ⟨q,0⟩):a00 prog a10 #[x.val] V λv V'=>∃b:BdV,v=b.val/\BqAt V' b ⟨0,q⟩ :=
 k0y x V _ ⟨_,rfl,rfl,hx,.inl rfl⟩
theorem o0k{V:View}{x:NumV}{z:Cq}(h:QAt V x z)(hz:z.sz<=2^40):a00 prog d10 #[x.val] V λv V'=>∃r:NumV,v=r.val/\QAt V' r ⟨z.im,0⟩:=by
 have zA:=Cq.wA hz; have zB:=Cq.wB hz; have zD:=Cq.wD hz
 have hr:=z.canon.rep
 exact j0y x V _ ((k06 h.im (k03.zero V) h.under (z:=⟨z.im,0⟩) ⟨hr.pos,hr.im,by simp[Rat.div_def]⟩ (by omega) (by rw[Int.natAbs_zero,U08]; omega) (by omega)).mono λv V' _ ⟨r,hv,hq⟩=>⟨r,hv,r,rfl,hq⟩)
theorem g0r{V:View}{x y:NumV}{a b:Rat}(hx:QAt V x ⟨a,0⟩)(hy:QAt V y ⟨b,0⟩)(hz:(⟨a,0⟩:Cq).sz<=2^38)(hw:(⟨b,0⟩:Cq).sz<=2^38) :
 a00 prog x0x #[x.val,y.val] V λv _=>v = .int .i64 (cmpR a b):=by
 have e0:cmpR (a-b) 0=cmpR a b:=by
  unfold cmpR
  by_cases h:a<b
  . rw[if_pos h,if_pos (by grind)]
  . rw[if_neg h,if_neg (by grind)]
    by_cases g:a=b
    . rw[if_pos g,if_pos (by grind)]
    . rw[if_neg g,if_neg (by grind)]
 have z0:cmpR (0:Rat) 0=0:=by unfold cmpR; rw[if_neg (by grind),if_pos rfl]
 have s:=U0f (⟨a,0⟩:Cq) (-(⟨b,0⟩:Cq))
 refine M0u x y V _ ((d0r hx hy (by omega) (by omega)).mono λv V1 l1 ⟨d,hv,hd⟩=>⟨d,hv,?_⟩)
 rw[K13]at hd
 refine(s0d hd).mono λv V2 l2 hv=>⟨_,hv,λhc => ?_,λhc => ?_⟩
 . show Value.int .i64 (cmpR (a-b) 0)=_; rw[e0]
 . have hc:cmpR (a-b) 0=0:=by simpa using hc
   have ds:(⟨a-b,0⟩:Cq).sz<=2^40:=by
    have e1:(⟨a-b,0⟩:Cq)=(⟨a,0⟩:Cq)+⟨-b,0⟩:=by rw[u0w]; congr 1; grind
    have h1:=U0f (⟨a,0⟩:Cq) ⟨-b,0⟩
    have h2:(⟨-b,0⟩:Cq).sz=(⟨b,0⟩:Cq).sz:=by rw[<-w0w,W0f]
    rw[e1]; omega
   refine(o0k (hd.le l2) ds).mono λv V3 l3 ⟨r,hv,hr⟩=>⟨r,hv,(s0d hr).mono λv V4 _ hv=>⟨_,hv,?_⟩⟩
   show Value.int .i64 (cmpR 0 0)=_
   rw[z0,<-e0,hc]
theorem K0i{V:View}{a b:BdV}{e f:Eb}(ha:BqAt V a e)(hb:BqAt V b f)(hz:e.num.sz<=2^38)(hw:f.num.sz<=2^38) :
 a00 prog J0x #[a.val,b.val] V λv _=>v = .int .i64 (e.cmp f):=by
 refine N0u a b V _ ⟨λh=>⟨λg => ?_,λg => ?_⟩,λh=>⟨λg => ?_,λg => ?_⟩⟩
 . have g:e.inf<f.inf:=by rw[<-ha.inf,<-hb.inf]; simpa using g
   rw[Eb.cmp_neg1.2 (.inl g)]
 . have h:e.inf≠f.inf:=by rw[<-ha.inf,<-hb.inf]; simpa using h
   have g:¬e.inf<f.inf:=by rw[<-ha.inf,<-hb.inf]; simpa using g
   rw[Eb.cmp_1.2 (.inl (by omega))]
 . have h:e.inf=f.inf:=by rw[<-ha.inf,<-hb.inf]; simpa using h
   have g:e.inf≠0:=by rw[<-ha.inf]; simpa using g
   have r:=Eb.cmp_range e f
   have n1:¬e.cmp f = -1:=λc=>by
    rcases Eb.cmp_neg1.1 c with p|⟨p,_⟩
    . omega
    . exact g p
   have n2:¬e.cmp f=1:=λc=>by
    rcases Eb.cmp_1.1 c with p|⟨_,p,_⟩
    . omega
    . exact g p
   have:e.cmp f=0:=by omega
   rw[this]
 . have h:e.inf=f.inf:=by rw[<-ha.inf,<-hb.inf]; simpa using h
   have g:e.inf=0:=by rw[<-ha.inf]; simpa using g
   refine(g0r ha.num hb.num hz hw).mono λv V1 _ hv=>⟨_,hv,?_⟩
   unfold Eb.cmp; rw[if_neg (by omega)]
theorem J09{V:View}{a:BdV}{e:Eb}(ha:BqAt V a e):a00 prog j0h #[a.val] V λv _=>v = .int .i64 e.sign:=by
 refine w0s a V _ ⟨λh => ?_,λh => ?_⟩
 . have h:e.inf≠0:=by rw[<-ha.inf]; simpa using h
   rw[ha.inf]
   rcases D0h ha.ok with r|r|r
   . exact absurd r h
   . rw[(K0j h).2 (by omega),r]
   . rw[(K0j h).1 (by omega),r]
 . have h:e.inf=0:=by rw[<-ha.inf]; simpa using h
   refine(s0d ha.num).mono λv V1 _ hv=>⟨_,hv,?_⟩
   show Value.int .i64 (cmpR e.x 0) = .int .i64 (Eb.cmp e (Eb.fin 0))
   have z:(Eb.fin 0).inf=0:=rfl
   unfold Eb.cmp; rw[if_neg (by omega)]; rfl
theorem D05{V:View}{a b:BdV}{e f:Eb}(ha:BqAt V a e)(hb:BqAt V b f)(hz:e.num.sz<=2^40)(hw:f.num.sz<=2^40) :
 a00 prog u0u #[a.val,b.val] V λv V'=>∃c:BdV,v=c.val/\BqAt V' c (e.add f):=by
 refine x0s a b V _ ⟨λh => ?_,λh=>⟨λg => ?_,λg => ?_⟩⟩
 . have h:e.inf≠0:=by rw[<-ha.inf]; simpa using h
   exact⟨a,rfl,by unfold Eb.add; rw[if_pos h]; exact ha⟩
 . have h:¬e.inf≠0:=by rw[<-ha.inf]; simpa using h
   have g:f.inf≠0:=by rw[<-hb.inf]; simpa using g
   exact⟨b,rfl,by unfold Eb.add; rw[if_neg h,if_pos g]; exact hb⟩
 . have h:¬e.inf≠0:=by rw[<-ha.inf]; simpa using h
   have g:¬f.inf≠0:=by rw[<-hb.inf]; simpa using g
   refine(G0i ha.num hb.num hz hw).mono λv V1 _ ⟨r,hv,hr⟩=>⟨r,hv,?_⟩
   have e1:e.num+f.num=⟨e.x+f.x,0⟩:=u0w e.x f.x
   rw[e1]at hr
   refine(B07 hr).mono λv V2 _ ⟨c,hv,hc⟩=>⟨c,hv,c,rfl,?_⟩
   unfold Eb.add; rw[if_neg h,if_neg g]; exact hc
theorem e09{V:View}{a:BdV}{e:Eb}(ha:BqAt V a e):a00 prog c0s #[a.val] V λv V'=>∃c:BdV,v=c.val/\BqAt V' c e.neg:=by
 refine n0q a V _ ((H0i ha.num).mono λv V1 _ ⟨r,hv,hr⟩=>⟨r,hv,_,rfl,?_⟩)
 have r0:=D0h ha.ok
 have e1 : -e.num=e.neg.num:=w0w e.x
 rw[e1]at hr
 refine⟨?_,hr,Eb.neg_ok ha.ok⟩
 show i64.wrap (0-a.inf) = -e.inf
 rw[ha.inf,i64w (by omega) (by omega)]; omega
theorem BqAt.zero{V:View}{r:NumV}(h:QAt V r ⟨((0:Int):Rat),0⟩){i:Int}(hi:(⟨i,0⟩:Eb).ok):BqAt V (BdV.mk i r) ⟨i,0⟩:=⟨rfl,by rw[Rat.intCast_zero]at h; exact h,hi⟩
theorem b0j(e:Eb):e.sign = -1\/e.sign=0\/e.sign=1:=Eb.cmp_range e (Eb.fin 0)
theorem k0p{e f:Eb}(h:e.inf≠0\/f.inf≠0):e.mul f=⟨e.sign*f.sign,0⟩:=by
 unfold Eb.mul; rw[if_neg (by omega)]
theorem H11{e:Eb}(h:e.sign=0):e.inf=0/\e.x=0:=by
 have z:e.inf=0:=by
  refine Classical.byContradiction λc => ?_
  have:=K0j c
  rcases Int.lt_trichotomy e.inf 0 with p|p|p
  . rw[this.1 p]at h; exact absurd h (by decide)
  . exact c p
  . rw[this.2 p]at h; exact absurd h (by decide)
 refine⟨z,?_⟩
 have a1:¬Eb.LT e (Eb.fin 0):=λc=>by rw[<-Eb.cmp_neg1]at c; have:e.sign = -1:=c; omega
 have a2:¬Eb.LT (Eb.fin 0) e:=λc=>by rw[<-Eb.cmp_1]at c; have:e.sign=1:=c; omega
 have:=Eb.LT.tri (.inl z) (.inl rfl) a1 a2
 rw[this]; rfl
theorem l0p{e f:Eb}(h:e.sign=0):e.mul f=⟨0,0⟩:=by
 obtain⟨z,x⟩:=H11 h
 by_cases c:f.inf=0
 . unfold Eb.mul; rw[if_pos ⟨z,c⟩,x]; congr 1; grind
 . rw[k0p (.inr c),h,Int.zero_mul]
theorem f09{V:View}{a b:BdV}{e f:Eb}(ha:BqAt V a e)(hb:BqAt V b f)(hz:e.num.sz<=2^40)(hw:f.num.sz<=2^40) :
 a00 prog k0s #[a.val,b.val] V λv V'=>∃c:BdV,v=c.val/\BqAt V' c (e.mul f):=by
 have whole:∀ {V:View},a00 prog Q09 #[.int .i64 0] V λv V'=>∃r:NumV,v=r.val/\QAt V' r ⟨((0:Int):Rat),0⟩:=Y0b (by omega) (by omega)
 have s1:=b0j e; have s2:=b0j f
 refine o0q a b V _ ((J09 ha).mono λv V1 l1 hv=>⟨_,hv,λh => ?_,λh => ?_⟩)
 . have h:e.sign=0:=by simpa using h
   refine whole.mono λv V2 l2 ⟨r,hv,hr⟩=>⟨r,hv,?_⟩
   rw[Rat.intCast_zero]at hr
   exact(B07 hr).mono λv V3 _ ⟨c,hv,hc⟩=>⟨c,hv,c,rfl,by rw[l0p h]; exact hc⟩
 have h:e.sign≠0:=by simpa using h
 refine(J09 (hb.le l1)).mono λv V4 l4 hv=>⟨_,hv,λg => ?_,λg => ?_⟩
 . have g:f.sign=0:=by simpa using g
   refine whole.mono λv V5 l5 ⟨r,hv,hr⟩=>⟨r,hv,?_⟩
   rw[Rat.intCast_zero]at hr
   exact(B07 hr).mono λv V6 _ ⟨c,hv,hc⟩=>⟨c,hv,c,rfl,by rw[Eb.mul_comm,l0p g]; exact hc⟩
 have g:f.sign≠0:=by simpa using g
 replace ha:=ha.le (View.le_trans l1 l4); replace hb:=hb.le (View.le_trans l1 l4)
 have wr:i64.wrap (e.sign*f.sign)=e.sign*f.sign:=by
  rcases s1 with p|p|p<;>rcases s2 with q|q|q<;>rw[p,q]<;>decide
 have ok:(⟨e.sign*f.sign,0⟩:Eb).ok:=by
  refine .inr ⟨rfl,?_⟩
  rcases s1 with p|p|p<;>rcases s2 with q|q|q<;>first|exact absurd p h|exact absurd q g|(show e.sign*f.sign=1\/e.sign*f.sign = -1; rw[p,q]; decide)
 have inf:∀ {V:View} {a' b':BdV},(e.inf≠0\/f.inf≠0)->BqAt V a e->BqAt V b f->a00 prog j0h #[a.val] V λv V7=>∃r7:Int,v = .int .i64 r7/\a00 prog j0h #[b.val] V7 λv V8=>∃r8:Int,v = .int .i64 r8 /\
  a00 prog Q09 #[.int .i64 0] V8 λv V9=>∃r9:NumV,v=r9.val/\∃c:BdV,(BdV.mk (i64.wrap (r7*r8)) r9).val=c.val/\BqAt V9 c (e.mul f):=by
  intro V _ _ hi ha hb
  refine(J09 ha).mono λv V7 l7 hv=>⟨_,hv,(J09 (hb.le l7)).mono λv V8 l8 hv=>⟨_,hv,whole.mono λv V9 _ ⟨r,hv,hr⟩=>⟨r,hv,_,rfl,?_⟩⟩⟩
  rw[wr,k0p hi]; exact .zero hr ok
 refine⟨λi => ?_,λi=>⟨λj => ?_,λj => ?_⟩⟩
 . exact inf (a':=a) (b':=b) (.inl (by rw[<-ha.inf]; simpa using i)) ha hb
 . exact inf (a':=a) (b':=b) (.inr (by rw[<-hb.inf]; simpa using j)) ha hb
 . have i:e.inf=0:=by rw[<-ha.inf]; simpa using i
   have j:f.inf=0:=by rw[<-hb.inf]; simpa using j
   refine(e0r ha.num hb.num hz hw).mono λv V13 _ ⟨r,hv,hr⟩=>⟨r,hv,?_⟩
   have e1:e.num*f.num=⟨e.x*f.x,0⟩:=J13 e.x f.x
   rw[e1]at hr
   refine(B07 hr).mono λv V14 _ ⟨c,hv,hc⟩=>⟨c,hv,c,rfl,?_⟩
   unfold Eb.mul; rw[if_pos ⟨i,j⟩]; exact hc
theorem s0m{V:View}{x:Nat}(h:x<2^64):a00 prog m0s #[.float .f64 x] V λv _=>v = .bool (decide (x%2^63<infR)):=by
 refine u0q x V _ ((e0p h).mono λv V1 _ hv=>⟨_,hv,λhc => ?_,λhc => ?_⟩)
 . have hok:okW x:=by simpa using hc
   refine(s0t hok).mono λv V2 _ hv=>⟨_,hv,?_⟩
   have:=hok.2
   by_cases c:x%2^63=infR
   . rw[decide_eq_true c,decide_eq_false (by omega)]; rfl
   . rw[decide_eq_false c,decide_eq_true (by omega)]; rfl
 . have hok:¬okW x:=by simpa using hc
   have:¬x%2^63<infR:=λc=>hok ⟨h,by omega⟩
   rw[decide_eq_false this]
def fld(x:Nat):Nat:=x / 2^52%2048
def mant(x:Nat):Nat:=if fld x=0 then x%2^52 else x%2^52+2^52
def up1(x:Nat):Nat:=if fld x=0 then 1 else fld x
def sgI(x:Nat)(n:Nat):Int:=if 2^63<=x then -(n:Int)else n
theorem t0m(x:Nat):mant x<2^53:=by unfold mant; split<;>omega
theorem I15(x:Nat):rm (x%2^63)=mant x*2^(up1 x-1):=by
 have hf:x%2^63 / 2^52=fld x:=by unfold fld; omega
 have hm:x%2^63%2^52=x%2^52:=by omega
 unfold rm mant up1
 rw[hf,hm]
 by_cases c:fld x=0
 . rw[if_pos (by omega),if_pos c,if_pos c]; simp; omega
 . rw[if_neg (by omega),if_neg c,if_neg c,Nat.add_comm]
theorem e17{x:Nat}(h:x<2^64):kz (key x)=sgI x (rm (x%2^63)):=by
 unfold kz sgI
 rw[J0q h]
 by_cases c:2^63<=x
 . rw[if_pos c]
   by_cases z:key x<0
   . rw[if_pos z]
   . rw[if_neg z]
     have:x%2^63=0:=by unfold key at z; split at z<;>omega
     rw[this,q0j]; rfl
 . rw[if_neg c,if_neg (by unfold key; rw[if_pos (by omega)]; omega)]
theorem t0g{x m:Nat}(hx:x<2^64)(hm:m<2^64):u64.wrap (BitVec.toNat ((BitVec.ofInt u64.bits (x:Int)) &&& (BitVec.ofInt u64.bits (m:Int))))=((x &&& m:Nat):Int):=by
 have h2:x &&& m<=x:=Nat.and_le_left
 rw[BitVec.toNat_and,A0j hx,A0j hm]
 exact d09 (by omega)
theorem L0i{x k:Nat}:Int.fdiv (x:Int) ((2^k:Nat):Int)=((x / 2^k:Nat):Int):=by
 rw[Int.fdiv_eq_ediv_of_nonneg _ (Int.natCast_nonneg _),<-Int.natCast_ediv]
theorem B0j(x:Nat):1<=up1 x/\up1 x<=2047:=by
 have:fld x<2048:=by unfold fld; omega
 unfold up1
 by_cases c:fld x=0
 . rw[if_pos c]; omega
 . rw[if_neg c]; omega
theorem G14(x:Nat):(if(1:Int)>(fld x:Int)then(1:Int)else(fld x:Int))=(up1 x:Int):=by
 unfold up1
 by_cases c:fld x=0
 . rw[if_pos (by omega),if_pos c]; rfl
 . rw[if_neg (by omega),if_neg c]
def fq(x:Nat):Rat:=(kz (key x):Rat) / ((2^1074:Nat):Rat)
theorem m0p{V:View}{x:Nat}(h:finW x):a00 prog y0u #[.float .f64 x] V λv V'=>∃r:WhV,v = .tuple #[r.val,.int .i64 ((up1 x:Int)-1075)]/\k03 V' r (sgI x (mant x)):=by
 have h64:=h.1
 have hfl:fld x<2048:=by unfold fld; omega
 have hp52:(2:Int)^(min (Int.toNat 52) u64.bits)=((2^52:Nat):Int):=by decide
 have hp63:(2:Int)^(min (Int.toNat 63) u64.bits)=((2^63:Nat):Int):=by decide
 have e1:i64.wrap (u64.wrap (BitVec.toNat ((BitVec.ofInt u64.bits (Int.fdiv (x:Int) (2^(min (Int.toNat 52) (u64.bits))))) &&& (BitVec.ofInt u64.bits 2047))))=(fld x:Int):=by
  have:=t0g (x:=x / 2^52) (m:=2047) (by omega) (by omega)
  have e:x / 2^52 &&& 2047=fld x:=Nat.and_two_pow_sub_one_eq_mod (x / 2^52) 11
  rw[e]at this
  rw[hp52,L0i]
  rw[show(((2047:Nat)):Int)=2047 from rfl]at this
  rw[this,i64w (by omega) (by omega)]
 have e2:u64.wrap (BitVec.toNat ((BitVec.ofInt u64.bits (x:Int)) &&& (BitVec.ofInt u64.bits 4503599627370495)))=((x%2^52:Nat):Int):=by
  have:=t0g (x:=x) (m:=4503599627370495) (by omega) (by omega)
  have e:x &&& 4503599627370495=x%2^52:=Nat.and_two_pow_sub_one_eq_mod x 52
  rw[e]at this
  exact this
 have e3:((Int.fdiv (x:Int) (2^(min (Int.toNat 63) (u64.bits))):Int)==1)=decide (2^63<=x):=by
  rw[hp63,L0i]
  by_cases c:2^63<=x
  . have:x / 2^63=1:=by omega
    rw[this,decide_eq_true c]; rfl
  . have:x / 2^63=0:=by omega
    rw[this,decide_eq_false c]; rfl
 refine A0s x V _ ⟨x,G0e x,?_⟩
 rw[e1,e2,e3]
 have hw:∀ {V1:View} {s:Sl} {n:Nat},L00 V1 s n->n=mant x->a00 prog p0e #[.bool (decide (2^63<=x)),s.v] V1 λv V'=>∃r:WhV,v=r.val/\k03 V' r (sgI x (mant x)):=by
  intro V1 s n hs hn
  refine(E04 (decide (2^63<=x)) hs).mono λv V2 _ ⟨r,hv,hr⟩=>⟨r,hv,?_⟩
  subst hn
  unfold sgI
  by_cases c:2^63<=x
  . rw[decide_eq_true c]at hr; rw[if_pos c]; simpa using hr
  . rw[decide_eq_false c]at hr; rw[if_neg c]; simpa using hr
 refine⟨λhc => ?_,λhc => ?_⟩
 . simp only[decide_eq_true_eq]at hc
   have e4:u64.wrap (BitVec.toNat ((BitVec.ofInt u64.bits ((x%2^52:Nat):Int)) ||| (BitVec.ofInt u64.bits 4503599627370496)))=((mant x:Nat):Int):=by
    have:=i0p (x:=x%2^52) (m:=4503599627370496) (by omega) (by omega)
    have hor:=Nat.two_pow_add_eq_or_of_lt (i:=52) (b:=x%2^52) (by omega) 1
    have e:x%2^52 ||| 4503599627370496=mant x:=by
     rw[Nat.or_comm]
     have h1:2^52*1=4503599627370496:=by decide
     rw[h1]at hor
     rw[<-hor]; unfold mant; rw[if_neg (by omega)]; omega
    rw[e]at this
    exact this
   rw[e4]
   have:=t0m x
   refine(e08 (n:=((mant x:Nat):Int)) (by omega) (by omega)).mono λv V1 _ ⟨s,hv,hs⟩=>⟨s,hv,?_⟩
   refine(hw hs (by omega)).mono λv V2 _ ⟨r,hv,hr⟩=>⟨r,hv,r,?_,hr⟩
   have hu:=B0j x
   rw[G14 x,i64w (by omega) (by omega)]
 . simp only[decide_eq_false_iff_not]at hc
   have hf0:fld x=0:=by omega
   have em:x%2^52=mant x:=by unfold mant; rw[if_pos hf0]
   rw[em]
   have:=t0m x
   refine(e08 (n:=((mant x:Nat):Int)) (by omega) (by omega)).mono λv V1 _ ⟨s,hv,hs⟩=>⟨s,hv,?_⟩
   refine(hw hs (by omega)).mono λv V2 _ ⟨r,hv,hr⟩=>⟨r,hv,r,?_,hr⟩
   have hu:=B0j x
   rw[G14 x,i64w (by omega) (by omega)]
theorem H07(k:Nat):bl (2^k)<=k+1:=j03 (by rw[Nat.pow_succ]; have:0<2^k:=Nat.pow_pos (by omega); omega)
theorem J15(x k:Nat):bl (mant x*2^k)<=54+k:=by
 have h1:=x0i (mant x) (2^k)
 have h2:bl (mant x)<=53:=j03 (t0m x)
 have h3:=H07 k
 omega
theorem I11(x a b:Nat):sgI x a*(b:Int)=sgI x (a*b):=by
 unfold sgI; split
 . rw[Int.neg_mul,Int.natCast_mul]
 . rw[Int.natCast_mul]
theorem u0m(x a:Nat):(sgI x a).natAbs=a:=by unfold sgI; split<;>omega
theorem J11:(2^1074:Nat)≠0:=by
 exact Nat.pos_iff_ne_zero.1 (Nat.pow_pos (a:=2) (n:=1074) (by omega))
theorem i0r{x k:Nat}{n:Nat}(h:x<2^64)(hn:(n:Int)=(up1 x:Int)-1075+k):fq x=(sgI x (mant x*2^n):Rat) / ((2^k:Nat):Rat):=by
 have hk:(2^k:Nat)≠0:=by
  have:0<2^k:=Nat.pow_pos (by omega)
  omega
 unfold fq
 rw[L03 J11 hk,e17 h,I15,I11,I11]
 have:=B0j x
 have e:up1 x-1+k=n+1074:=by omega
 rw[Nat.mul_assoc,Nat.mul_assoc,<-Nat.pow_add 2 (up1 x-1) k,<-Nat.pow_add 2 n 1074,e]
theorem A17{x:Nat}{z:Rat}{k n j m:Nat}{y:Nat}(h:x<2^64)(hy:y<2^64)(hn:(n:Int)=(up1 x:Int)-1075+k)(hm:(m:Int)=(up1 y:Int)-1075+k):Rep ⟨fq x,fq y⟩ (sgI x (mant x*2^n)) (sgI y (mant y*2^m)) (2^k) :=
 ⟨by have : 0 < 2 ^ k := Nat.pow_pos (by omega)
     omega,i0r h hn,i0r hy hm⟩
theorem O0y{V:View}{b:Nat}(hb:V b=some #[.int .u32 1]):L00 V ⟨some ⟨b,0,none⟩,1,1⟩ 1:=by
 have:dig 1=[1]:=by rw[O06 (by omega)]; simp[t05]
 unfold L00; rw[this]
 exact Y01.of_block (by rw[hb]; rfl) rfl (Nat.le_refl _) (by intro d hd; simp at hd; omega)
theorem K11:wn 1<=2^43:=wn64 (by omega)
theorem t0t{V:View}{c:CxV}(h1:finW c.re)(h2:finW c.im) :
 a00 prog U0p #[.complex .f64 c.re c.im] V λv V'=>∃r:NumV,v = .tuple #[r.val,.int .i64 0]/\K05 V' r ⟨fq c.re,fq c.im⟩:=by
 have f1:decide (c.re%2^63<infR)=true:=decide_eq_true h1.2
 have f2:decide (c.im%2^63<infR)=true:=decide_eq_true h2.2
 have u1:=B0j c.re
 have u2:=B0j c.im
 refine N0n c V _ ((s0m h1.1).mono λv V1 l1 hv=>⟨_,hv,λhc => ?_,λ_ => ?_⟩)
 . rw[f1]at hc; simp at hc
 refine(s0m h2.1).mono λv V2 l2 hv=>⟨_,hv,λhc => ?_,λ_ => ?_⟩
 . rw[f2]at hc; simp at hc
 refine(m0p h1).mono λv V3 l3 ⟨a,hv,ha⟩=>⟨a,_,hv,?_⟩
 refine(m0p h2).mono λv V4 l4 ⟨b,hv,hb⟩=>⟨b,_,hv,?_⟩
 obtain⟨k,hk,hk2⟩:∃k:Nat,(if(i64.wrap (0-((up1 c.im:Int)-1075)):Int)>(if(i64.wrap (0-((up1 c.re:Int)-1075)):Int)>0 then i64.wrap (0-((up1 c.re:Int)-1075))else 0)then i64.wrap (0-((up1 c.im:Int)-1075))else(if(i64.wrap (0-((up1 c.re:Int)-1075)):Int)>0 then i64.wrap (0-((up1 c.re:Int)-1075))else 0))=(k:Int)/\1075-(up1 c.re:Int)<=k/\1075-(up1 c.im:Int)<=k/\k<=1074:=by
  rw[i64w (n:=0-((up1 c.im:Int)-1075)) (by omega) (by omega),i64w (n:=0-((up1 c.re:Int)-1075)) (by omega) (by omega)]
  by_cases g1:0-((up1 c.re:Int)-1075)>0
  . rw[if_pos g1]
    by_cases g2:0-((up1 c.im:Int)-1075)>0-((up1 c.re:Int)-1075)
    . rw[if_pos g2]; exact⟨(0-((up1 c.im:Int)-1075)).toNat,by omega,by omega,by omega,by omega⟩
    . rw[if_neg g2]; exact⟨(0-((up1 c.re:Int)-1075)).toNat,by omega,by omega,by omega,by omega⟩
  . rw[if_neg g1]
    by_cases g2:0-((up1 c.im:Int)-1075)>0
    . rw[if_pos g2]; exact⟨(0-((up1 c.im:Int)-1075)).toNat,by omega,by omega,by omega,by omega⟩
    . rw[if_neg g2]; exact⟨0,by omega,by omega,by omega,by omega⟩
 rw[hk]
 obtain⟨n,hn⟩:∃n:Nat,(n:Int)=(up1 c.re:Int)-1075+k:=⟨((up1 c.re:Int)-1075+k).toNat,by omega⟩
 obtain⟨m,hm⟩:∃m:Nat,(m:Int)=(up1 c.im:Int)-1075+k:=⟨((up1 c.im:Int)-1075+k).toNat,by omega⟩
 have w1:i64.wrap ((up1 c.re:Int)-1075+k)=(n:Int):=by rw[i64w (by omega) (by omega),hn]
 have w2:i64.wrap ((up1 c.im:Int)-1075+k)=(m:Int):=by rw[i64w (by omega) (by omega),hm]
 rw[w1,w2]
 have ma:=ha.2
 have mb:=hb.2
 rw[u0m]at ma mb
 have wa:∀x,wn (mant x)<=2^43:=λx=>wn64 (by have:=t0m x; omega)
 have wb:∀x j,j<=4000->wn (mant x*2^j)<=2^43:=λx j hj=>p0d (by have:=J15 x j; omega)
 have neg:∀(y:Nat) (r:WhV),k03 V4 r (sgI y (mant y))->mant y≠0->r.neg=decide (2^63<=y):=by
  intro y r hr h0
  rw[hr.1]
  unfold sgI
  by_cases g:2^63<=y
  . rw[if_pos g,decide_eq_true g,decide_eq_true (by omega)]
  . rw[if_neg g,decide_eq_false g,decide_eq_false (by omega)]
 have whole:∀ {W:View} {s:Sl} (y:Nat) (r:WhV) (j:Nat),k03 V4 r (sgI y (mant y))->L00 W s (mant y*2^j)->a00 prog p0e #[.bool r.neg,s.v] W λv V'=>∃q:WhV,v=q.val/\k03 V' q (sgI y (mant y*2^j)):=by
  intro W s y r j hr hs
  refine(E04 r.neg hs).mono λv V' _ ⟨q,hv,hq⟩=>⟨q,hv,?_⟩
  by_cases h0:mant y=0
  . rw[h0,Nat.zero_mul]at hq ⊢
    have e:(if r.neg=true then -((0:Nat):Int)else((0:Nat):Int))=0:=by split<;>rfl
    rw[e]at hq
    have e2:sgI y 0=0:=by unfold sgI; split<;>rfl
    rw[e2]; exact hq
  . rw[neg y r hr h0]at hq
    unfold sgI
    by_cases g:2^63<=y
    . rw[if_pos g]; rw[decide_eq_true g]at hq; simpa using hq
    . rw[if_neg g]; rw[decide_eq_false g]at hq; simpa using hq
 have ha4:=ha.le l4
 have wa44:∀x,wn (mant x)<=2^44:=λx=>Nat.le_trans (wa x) (by decide)
 refine(C05 (ma.le l4) (wa44 c.re) (by omega)).mono λv V5 l5 ⟨s,hv,hs⟩=>⟨s,hv,?_⟩
 refine(whole c.re a n ha4 hs).mono λv V6 l6 ⟨p,hv,hp⟩=>⟨p,hv,?_⟩
 refine(C05 (mb.le (View.le_trans l5 l6)) (wa44 c.im) (by omega)).mono λv V7 l7 ⟨s',hv,hs'⟩=>⟨s',hv,?_⟩
 refine(whole c.im b m hb hs').mono λv V8 l8 ⟨q,hv,hq⟩=>⟨q,hv,λb1 V9 l9 hf hb1 => ?_⟩
 have one:L00 V9 ⟨some ⟨b1,0,none⟩,1,1⟩ 1:=O0y hb1
 refine(C05 one (Nat.le_trans K11 (by decide)) (by omega:k<=2^44)).mono λv V10 l10 ⟨s2,hv,hs2⟩=>⟨s2,hv,?_⟩
 rw[Nat.one_mul]at hs2
 have R:=A17 (z:=0) (j:=0) h1.1 h2.1 hn hm
 refine(g06 (hp.le (View.le_trans l7 (View.le_trans l8 (View.le_trans l9 l10)))) (hq.le (View.le_trans l9 l10)) hs2 R (by rw[u0m]; exact wb _ _ (by omega)) (by rw[u0m]; exact wb _ _ (by omega)) (p0d (by have:=H07 k; omega))).mono λv V11 l11 ⟨r,hv,hr⟩=>⟨r,hv,r,rfl,hr⟩
theorem p0k{V:View}{s:Sl}{a:Nat}(hs:L00 V s a)(ha:wn a<=2^45) :
 a00 prog j10 #[s.v] V λv V'=>v = .int .i64 (bl a:Nat):=by
 have hsl:=hs.len
 have hwn:wn a=s.len:=by simp only[wn]; exact hsl.symm
 refine m0y s V _ ⟨λh => ?_,λh => ?_⟩
 . have h:(s.len:Int)=0:=by simpa using h
   have:a=0:=W05.1 (by omega)
   subst this; rfl
 . have h:¬(s.len:Int)=0:=by simpa using h
   have ha0:a≠0:=by rintro rfl; rw[U08]at hwn; omega
   rw[i64w (n:=(s.len:Int)-1) (by omega) (by omega)]
   have e:Int.toNat ((s.len:Int)-1)=wn a-1:=by omega
   refine⟨⟨by omega,by omega,hs.isSome (by omega)⟩,_,hs.get (by omega) (by omega),?_⟩
   rw[e]
   have hw:=(b05 a).getD (wn a-1)
   refine(H0f hw).mono λv V' _ hv=>⟨_,hv,?_⟩
   have h2:=D15 ha0
   have h3:bl ((dig a).getD (wn a-1) 0)<=32:=by
    have h3:=(t09 ha0).2.2
    have:=B0g h3
    have:=(Nat.pow_lt_pow_iff_right (a:=2) (n:=bl ((dig a).getD (wn a-1) 0)-1) (m:=32) (by omega)).1 (by omega)
    omega
   rw[i64w (n:=32*_) (by omega) (by omega),i64w (by omega) (by omega)]
   congr 1
   omega
