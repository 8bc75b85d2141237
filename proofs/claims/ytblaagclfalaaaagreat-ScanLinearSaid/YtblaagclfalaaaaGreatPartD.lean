/- Part. -/
import Derived.Test.YtblaagclfalaaaaGreatPartC
import Derived.Deep.Slices
namespace Go.Proofs.YtblaagclfalaaaaGreat
open Go Go.Vc Go.Proofs
open Go.Proofs.Tryz (prog)
open Go.IntKind (i64 u64 u32 u8)
theorem W0f{V:View}{s t:Sl}{a b:Nat}(hs:i02 V s a)(ht:i02 V t b)(ha:wn a<=2^43)(hb:wn b<=2^43) :
 a00 prog B0q #[s.v,t.v] V λv V'=>∃r:Sl,v=r.v/\i02 V' r (Nat.gcd a b):=by
 refine d0p s t V _ (λ_ x V'=>∃a' b',i02 V' x.t0 a'/\i02 V' x.t1 b'/\wn a'<=2^43/\wn b'<=2^43/\Nat.gcd a' b'=Nat.gcd a b) (λ_ x V'=>Q0i V' x.t1) ⟨⟨a,b,hs,ht,ha,hb,rfl⟩,?_⟩
 rintro⟨x,y⟩ V1 l1 ⟨a',b',hx,hy,wa,wb,hg⟩
 simp only at hx hy ⊢
 have hyl:=hy.len
 refine⟨λhp => ?_,λhp => ?_⟩
 . simp only[gt_iff_lt,decide_eq_true_eq]at hp
   have hb0:b'≠0:=λe=>by rw[<-hy.len_zero]at e; omega
   refine(G0a hx hy wa hb0).mono λv V2 l2 ⟨q,r,hv,hq,hr⟩=>⟨q,r,hv,?_⟩
   have hlt:a'%b'<b':=Nat.mod_lt _ (by omega)
   have hwr:wn (a'%b')<=wn b':=p0f (Nat.le_of_lt hlt)
   refine⟨⟨b',a'%b',hy.le l2,hr,wb,by omega,?_⟩,?_⟩
   . rw[Nat.gcd_comm,<-Nat.gcd_rec,Nat.gcd_comm]; exact hg
   . rw[C0e hr,C0e hy]; exact hlt
 . simp only[gt_iff_lt,decide_eq_false_iff_not]at hp
   have hb0:b'=0:=hy.len_zero.1 (by omega)
   subst hb0
   rw[Nat.gcd_zero_right]at hg
   exact⟨x,rfl,by rw[<-hg]; exact hx⟩
theorem q05{V:View}{s:Sl}{n:Nat}(neg:Bool)(h:i02 V s n) :
 a00 prog z0j #[.bool neg,s.v] V λv V'=>∃r:WhV,v=r.val/\l07 V' r (if neg=true then -(n:Int)else n):=by
 have hl:=h.len_zero
 refine W0h neg s V _ ⟨λhn=>⟨_,rfl,?_,?_⟩,λhn=>⟨_,rfl,?_,?_⟩⟩
 . rw[if_pos hn]; simp only[gt_iff_lt,decide_eq_decide]; omega
 . rw[if_pos hn]; simpa using h
 . rw[if_neg (by simp[hn])]; symm; simp only[decide_eq_false_iff_not]; omega
 . rw[if_neg (by simp[hn])]; simpa using h
theorem x09{V:View}{n:Int}(h0 : -9223372036854775808<=n)(h1:n<=9223372036854775807) :
 a00 prog M0o #[.int .i64 n] V λv V'=>∃r:WhV,v=r.val/\l07 V' r n:=by
 refine y0m n V _ ⟨λhn => ?_,λhn => ?_⟩
 . simp only[decide_eq_true_eq]at hn
   have e:u64.wrap (0-u64.wrap n) = -n:=by rw[u64m,u64m]; omega
   rw[e]
   refine(X0a (by omega) (by omega)).mono λv V1 _ ⟨r,hv,hr⟩=>⟨r,hv,_,rfl,by simp[hn],?_⟩
   have e2:n.natAbs=(-n).toNat:=by omega
   rw[e2]; exact hr
 . simp only[decide_eq_false_iff_not]at hn
   rw[u64w (by omega) (by omega)]
   refine(X0a (by omega) (by omega)).mono λv V1 _ ⟨r,hv,hr⟩=>⟨r,hv,_,rfl,by simp[hn],?_⟩
   have e2:n.natAbs=n.toNat:=by omega
   rw[e2]; exact hr
theorem S03{V:View}{x:WhV}{a:Int}(h:l07 V x a) :
 a00 prog y0j #[x.val] V λv V'=>∃r:WhV,v=r.val/\l07 V' r (-a):=by
 refine X0h x V _ ((q05 (!x.neg) h.2).mono λv V1 _ ⟨r,hv,hr⟩=>⟨r,hv,r,rfl,?_⟩)
 have e:(if(!x.neg)=true then -(a.natAbs:Int)else(a.natAbs:Int)) = -a:=by
  rw[h.1]; simp only[Bool.not_eq_true',decide_eq_false_iff_not]; split<;>omega
 rw[e]at hr; exact hr
theorem b06{V:View}{x y:WhV}{a b:Int}(hx:l07 V x a)(hy:l07 V y b)(ha:wn a.natAbs<=2^43)(hb:wn b.natAbs<=2^43) :
 a00 prog Q0k #[x.val,y.val] V λv V'=>∃r:WhV,v=r.val/\l07 V' r (a+b):=by
 have h1:=hx.1
 have h2:=hy.1
 refine E0j x y V _ ⟨λhs => ?_,λhs => ?_⟩
 . refine(x0l hx.2 hy.2 (by omega) (by omega)).mono λv V1 l1 ⟨r,hv,hr⟩=>⟨r,hv,?_⟩
   refine(q05 x.neg hr).mono λv V2 _ ⟨w,hv,hw⟩=>⟨w,hv,w,rfl,?_⟩
   have e:(if x.neg=true then -((a.natAbs+b.natAbs:Nat):Int)else((a.natAbs+b.natAbs:Nat):Int))=a+b:=by
    rw[h1,h2]at hs; rw[h1]
    by_cases p:a<0<;>by_cases q:b<0<;>simp[p,q]at hs ⊢<;>omega
   rw[e]at hw; exact hw
 . refine(L0c hx.2 hy.2 (by omega)).mono λv V1 l1 hv=>⟨_,hv,λhc => ?_,λhc => ?_⟩
   . have hc:b.natAbs<=a.natAbs:=by
       rcases Nat.lt_or_ge a.natAbs b.natAbs with h|h
       . rw[if_pos h]at hc; simp at hc
       . exact h
     refine(T0f (hx.2.le l1) (hy.2.le l1) (by omega) hc).mono λv V2 l2 ⟨r,hv,hr⟩=>⟨r,hv,?_⟩
     refine(q05 x.neg hr).mono λv V3 _ ⟨w,hv,hw⟩=>⟨w,hv,w,rfl,?_⟩
     have e:(if x.neg=true then -((a.natAbs-b.natAbs:Nat):Int)else((a.natAbs-b.natAbs:Nat):Int))=a+b:=by
      rw[h1,h2]at hs; rw[h1]
      by_cases p:a<0<;>by_cases q:b<0<;>simp[p,q]at hs ⊢<;>omega
     rw[e]at hw; exact hw
   . have hc:a.natAbs<=b.natAbs:=by
       rcases Nat.lt_or_ge b.natAbs a.natAbs with h|h
       . rw[if_neg (by omega),if_neg (by omega)]at hc; simp at hc
       . exact h
     refine(T0f (hy.2.le l1) (hx.2.le l1) (by omega) hc).mono λv V2 l2 ⟨r,hv,hr⟩=>⟨r,hv,?_⟩
     refine(q05 y.neg hr).mono λv V3 _ ⟨w,hv,hw⟩=>⟨w,hv,w,rfl,?_⟩
     have e:(if y.neg=true then -((b.natAbs-a.natAbs:Nat):Int)else((b.natAbs-a.natAbs:Nat):Int))=a+b:=by
      rw[h1,h2]at hs; rw[h2]
      by_cases p:a<0<;>by_cases q:b<0<;>simp[p,q]at hs ⊢<;>omega
     rw[e]at hw; exact hw
theorem S0s(x y a b:Int)(hx:x=if a<0 then -1 else 1)(hy:y=if b<0 then -1 else 1):a*b=x*y*(a.natAbs*b.natAbs:Nat):=by
 have ha:a=x*a.natAbs:=by rw[hx]; split<;>omega
 have hb:b=y*b.natAbs:=by rw[hy]; split<;>omega
 rw[Int.natCast_mul]
 conv=>lhs; rw[ha,hb]
 grind
theorem s05{V:View}{x y:WhV}{a b:Int}(hx:l07 V x a)(hy:l07 V y b)(ha:wn a.natAbs<=2^43)(hb:wn b.natAbs<=2^43) :
 a00 prog x0j #[x.val,y.val] V λv V'=>∃r:WhV,v=r.val/\l07 V' r (a*b):=by
 refine Y0h x y V _ ((E08 hx.2 hy.2 (by omega) (by omega)).mono λv V1 l1 ⟨r,hv,hr⟩=>⟨r,hv,?_⟩)
 refine(q05 (!(x.neg==y.neg)) hr).mono λv V2 _ ⟨w,hv,hw⟩=>⟨w,hv,w,rfl,?_⟩
 have e:(if(!(x.neg==y.neg))=true then -((a.natAbs*b.natAbs:Nat):Int)else((a.natAbs*b.natAbs:Nat):Int))=a*b:=by
  rw[S0s _ _ a b rfl rfl,hx.1,hy.1]
  by_cases p:a<0<;>by_cases q:b<0<;>simp[p,q]
 rw[e]at hw; exact hw
theorem y02{V:View}{x:WhV}{s:Sl}{a:Int}{n:Nat}(hx:l07 V x a)(hs:i02 V s n)(ha:wn a.natAbs<=2^43)(hb:wn n<=2^43) :
 a00 prog S0h #[x.val,s.v] V λv V'=>∃r:WhV,v=r.val/\l07 V' r (a*n):=by
 refine T0g x s V _ ((E08 hx.2 hs (by omega) (by omega)).mono λv V1 l1 ⟨r,hv,hr⟩=>⟨r,hv,?_⟩)
 refine(q05 x.neg hr).mono λv V2 _ ⟨w,hv,hw⟩=>⟨w,hv,w,rfl,?_⟩
 have e:(if x.neg=true then -((a.natAbs*n:Nat):Int)else((a.natAbs*n:Nat):Int))=a*n:=by
  conv=>rhs; rw[hx.val]
  rw[Int.natCast_mul]; split
  . rw[Int.neg_mul]
  . rfl
 rw[e]at hw; exact hw
theorem j08{V:View}{x y:WhV}{a b:Int}(hx:l07 V x a)(hy:l07 V y b)(ha:wn a.natAbs<=2^43)(hb:wn b.natAbs<=2^43) :
 a00 prog q0m #[x.val,y.val] V λv _=>v = .int .i64 (cmpZ a b):=by
 refine b0l x y V _ ((S03 hy).mono λv V1 l1 ⟨r,hv,hr⟩=>⟨r,hv,?_⟩)
 refine(b06 (hx.le l1) hr ha (by rw[Int.natAbs_neg]; exact hb)).mono λv V2 l2 ⟨w,hv,hw⟩=>⟨w,hv,λh => ?_,λh => ?_⟩
 . have:a + -b<0:=by have:=hw.1; rw[h]at this; simpa using this
   rw[f0u (by omega)]
 . have h1:¬a + -b<0:=by have:=hw.1; rw[h]at this; simpa using this
   have h2:=hw.2.len_zero
   by_cases e:a=b
   . have:w.mag.len=0:=h2.2 (by omega)
     rw[g0u e,this]; rfl
   . have:w.mag.len≠0:=λh=>by have:=h2.1 h; omega
     rw[i0u (by omega)]
     congr 1; split<;>omega
theorem m06{V:View}{x y:WhV}{s:Sl}{z:Cq}{a b:Int}{d:Nat}(hx:l07 V x a)(hy:l07 V y b)(hs:i02 V s d)(hz:Rep z a b d)(ha:wn a.natAbs<=2^43)(hb:wn b.natAbs<=2^43)(hd:wn d<=2^43) :
 a00 prog O0o #[x.val,y.val,s.v] V λv V'=>∃r:NumV,v=r.val/\J01 V' r z:=by
 obtain⟨e1,e2,e3⟩:=hz.eqs
 have hp:=P0j a b hz.pos
 have d1:=D0e a b d
 have d2:=c0h a b d
 have d3:=n0l a b d
 refine z0m x y s V _ ((W0f hx.2 hy.2 ha hb).mono λv V1 l1 ⟨r1,hv,h1⟩=>⟨r1,hv,?_⟩)
 have hw1:wn (Nat.gcd a.natAbs b.natAbs)<=2^43:=by
  rcases Nat.eq_zero_or_pos a.natAbs with h|h
  . rw[h,Nat.gcd_zero_left]; exact hb
  . exact Nat.le_trans (p0f (Nat.le_of_dvd h (Nat.gcd_dvd_left _ _))) ha
 refine(W0f h1 (hs.le l1) hw1 hd).mono λv V2 l2 ⟨r2,hv,h2⟩=>⟨r2,hv,?_⟩
 have hg:Nat.gcd (Nat.gcd a.natAbs b.natAbs) d=gcd3 a b d:=rfl
 rw[hg]at h2
 refine(K0c h2).mono λv V3 l3 hv=>⟨_,hv,λhn => ?_,λhn => ?_⟩
 . have l13:=View.le_trans l1 (View.le_trans l2 l3)
   refine(G0a (hx.2.le l13) (h2.le l3) ha (by omega)).mono λv V4 l4 ⟨q1,m1,hv,hq1,_⟩=>⟨q1,m1,hv,?_⟩
   refine(G0a (hy.2.le (View.le_trans l13 l4)) (h2.le (View.le_trans l3 l4)) hb (by omega)).mono λv V5 l5 ⟨q2,m2,hv,hq2,_⟩=>⟨q2,m2,hv,?_⟩
   have l45:=View.le_trans l4 l5
   refine(G0a (hs.le (View.le_trans l13 l45)) (h2.le (View.le_trans l3 l45)) hd (by omega)).mono λv V6 l6 ⟨q3,m3,hv,hq3,_⟩=>⟨q3,m3,hv,?_⟩
   have f1:l07 V6 (WhV.mk x.neg q1) z.A:=⟨by rw[e1,U0d d1 hp]; exact hx.1,by rw[e1,f08 d1]; exact hq1.le (View.le_trans l5 l6)⟩
   have f2:l07 V6 (WhV.mk y.neg q2) z.B:=⟨by rw[e2,U0d d2 hp]; exact hy.1,by rw[e2,f08 d2]; exact hq2.le l6⟩
   refine(K0c hq3).mono λv V7 l7 hv=>⟨_,hv,λh=>⟨_,rfl,f1.le l7,f2.le l7,?_⟩,λh=>⟨_,rfl,f1.le l7,f2.le l7,?_⟩⟩
   . simp only[decide_eq_true_eq]at h
     rw[e3,if_pos h]; exact i02.zero V7
   . simp only[decide_eq_false_iff_not]at h
     rw[e3,if_neg h]; exact hq3.le l7
 . simp only[Bool.not_eq_false',decide_eq_true_eq]at hn
   rw[hn]at e1 e2 e3
   simp only[Int.natCast_one,Int.ediv_one]at e1 e2
   rw[Nat.div_one]at e3
   have l13:=View.le_trans l1 (View.le_trans l2 l3)
   refine(K0c (hs.le l13)).mono λv V7 l7 hv=>⟨_,hv,λh=>⟨_,rfl,?_,?_,?_⟩,λh=>⟨_,rfl,?_,?_,?_⟩⟩
   . rw[e1]; exact hx.le (View.le_trans l13 l7)
   . rw[e2]; exact hy.le (View.le_trans l13 l7)
   . simp only[decide_eq_true_eq]at h
     rw[e3,if_pos h]; exact i02.zero V7
   . rw[e1]; exact hx.le (View.le_trans l13 l7)
   . rw[e2]; exact hy.le (View.le_trans l13 l7)
   . simp only[decide_eq_false_iff_not]at h
     rw[e3,if_neg h]; exact hs.le (View.le_trans l13 l7)
theorem T02{V:View}{x:NumV}{z:Cq}(h:J01 V x z):a00 prog x0q #[x.val] V λv V'=>∃r:Sl,v=r.v/\i02 V' r z.D:=by
 have hu:=h.under
 have hl:=hu.len_zero
 have hD:=z.D_pos
 refine e0p x V _ ⟨λh0 => ?_,λh0 => ?_⟩
 . have h0:x.under.len=0:=by have:(x.under.len:Int)=0:=(by simpa using h0); omega
   intro b V1 l1 _ hb
   have hz:=hl.1 h0
   have h1:z.D=1:=by split at hz<;>omega
   refine⟨_,rfl,?_⟩
   rw[h1]
   have:dig 1=[1]:=by rw[a07 (by omega)]; simp[J05]
   unfold i02; rw[this]
   exact L03.of_block (by rw[hb]; rfl) rfl (Nat.le_refl _) (by intro d hd; simp at hd; omega)
 . have h0:x.under.len≠0:=by have:¬(x.under.len:Int)=0:=(by simpa using h0); omega
   refine⟨_,rfl,?_⟩
   have hz:¬(if z.D=1 then 0 else z.D)=0:=λe=>h0 (hl.2 e)
   split at hz
   . omega
   . rename_i h1; rw[if_neg h1]at hu; exact hu
theorem S06{V:View}{n:Int}(h0 : -9223372036854775808<=n)(h1:n<=9223372036854775807) :
 a00 prog M0k #[.int .i64 n] V λv V'=>∃r:NumV,v=r.val/\J01 V' r ⟨(n:Rat),0⟩:=by
 obtain⟨e1,e2,e3⟩:=b0g n
 refine f0p n V _ ((x09 h0 h1).mono λv V1 _ ⟨r,hv,hr⟩=>⟨r,hv,_,rfl,by rw[e1]; exact hr,by rw[e2]; exact l07.zero _,by rw[e3]; exact i02.zero _⟩)
theorem wn64{n:Nat}(h:n<=18446744073709551615):wn n<=2^43:=by
 have:wn n<=2:=O06 (by omega)
 omega
theorem H0a{V:View}{p q d:Int}(p0 : -9223372036854775808<=p)(p1:p<=9223372036854775807)(q0 : -9223372036854775808<=q)(q1:q<=9223372036854775807)(d0 : -9223372036854775808<=d)(d1:d<=9223372036854775807)(hd:d≠0) :
 a00 prog u0q #[.int .i64 p,.int .i64 q,.int .i64 d] V λv V'=>∃r:NumV,v = .tuple #[r.val,.int .i64 0]/\J01 V' r ⟨(p:Rat) / (d:Rat),(q:Rat) / (d:Rat)⟩:=by
 refine g0p p q d V _ ⟨λh => ?_,λ_ => ?_⟩
 . exact absurd (by simpa using h) hd
 refine(x09 p0 p1).mono λv V1 l1 ⟨a,hv,ha⟩=>⟨a,hv,?_⟩
 refine(x09 q0 q1).mono λv V2 l2 ⟨b,hv,hb⟩=>⟨b,hv,?_⟩
 refine(x09 d0 d1).mono λv V3 l3 ⟨c,hv,hc⟩=>⟨c,hv,λhn => ?_,λhn => ?_⟩
 . have hneg:d<0:=by have:=hc.1; rw[hn]at this; simpa using this.symm
   refine(S03 (ha.le (View.le_trans l2 l3))).mono λv V4 l4 ⟨a',hv,ha'⟩=>⟨a',hv,?_⟩
   refine(S03 (hb.le (View.le_trans l3 l4))).mono λv V5 l5 ⟨b',hv,hb'⟩=>⟨b',hv,?_⟩
   refine(m06 (ha'.le l5) hb' (hc.2.le (View.le_trans l4 l5)) ?_ (wn64 (by omega)) (wn64 (by omega)) (wn64 (by omega))).mono λv V6 l6 ⟨r,hv,hr⟩=>⟨r,hv,r,rfl,hr⟩
   have e:((d.natAbs:Nat):Rat) = -(d:Rat):=by
    have:(d.natAbs:Int) = -d:=by omega
    rw[<-Rat.intCast_natCast,this]; push_cast; rfl
   refine⟨by omega,?_,?_⟩<;>(simp only[e]; push_cast; rw[Rat.div_def,Rat.div_def]; grind)
 . have hpos:¬d<0:=by have:=hc.1; rw[hn]at this; simpa using this.symm
   refine(m06 (ha.le (View.le_trans l2 l3)) (hb.le l3) hc.2 ?_ (wn64 (by omega)) (wn64 (by omega)) (wn64 (by omega))).mono λv V6 l6 ⟨r,hv,hr⟩=>⟨r,hv,r,rfl,hr⟩
   have e:((d.natAbs:Nat):Rat)=(d:Rat):=by
    have:(d.natAbs:Int)=d:=by omega
    rw[<-Rat.intCast_natCast,this]
   refine⟨by omega,?_,?_⟩<;>simp only[e]
theorem Cq.wA{z:Cq}(h:z.sz<=2^40):wn z.A.natAbs<=2^35:=s0p (by have:=z.szA; omega)
theorem Cq.wB{z:Cq}(h:z.sz<=2^40):wn z.B.natAbs<=2^35:=s0p (by have:=z.szB; omega)
theorem Cq.wD{z:Cq}(h:z.sz<=2^40):wn z.D<=2^35:=s0p (by have:=z.szD; omega)
theorem c07{a b:Int}{k:Nat}(ha:wn a.natAbs<=k)(hb:wn b.natAbs<=k):wn (a*b).natAbs<=2*k:=by
 rw[Int.natAbs_mul]; have:=A0e a.natAbs b.natAbs; omega
theorem o0h{a b:Int}{k:Nat}(ha:wn a.natAbs<=k)(hb:wn b.natAbs<=k):wn (a+b).natAbs<=k+1:=by
 have:=p0f (Int.natAbs_add_le a b); have:=J0q a.natAbs b.natAbs; omega
theorem w0u{a:Int}{k:Nat}(ha:wn a.natAbs<=k):wn (-a).natAbs<=k:=by rw[Int.natAbs_neg]; exact ha
theorem g06{V:View}{x y:NumV}{z w:Cq}(hx:J01 V x z)(hy:J01 V y w)(hz:z.sz<=2^40)(hw:w.sz<=2^40) :
 a00 prog w0q #[x.val,y.val] V λv V'=>∃r:NumV,v=r.val/\J01 V' r (z+w):=by
 have zA:=Cq.wA hz; have zB:=Cq.wB hz; have zD:=Cq.wD hz
 have wA:=Cq.wA hw; have wB:=Cq.wB hw; have wD:=Cq.wD hw
 have zD':wn (z.D:Int).natAbs<=2^35:=zD
 have wD':wn (w.D:Int).natAbs<=2^35:=wD
 have s1:=c07 zA wD'; have s2:=c07 wA zD'; have s3:=c07 zB wD'; have s4:=c07 wB zD'
 have s5:=o0h s1 s2; have s6:=o0h s3 s4
 have s7:=A0e z.D w.D
 refine i0p x y V _ ((T02 hx).mono λv V1 l1 ⟨r1,hv,h1⟩=>⟨r1,hv,?_⟩)
 replace hx:=hx.le l1; replace hy:=hy.le l1
 refine(T02 hy).mono λv V2 l2 ⟨r2,hv,h2⟩=>⟨r2,hv,?_⟩
 replace hx:=hx.le l2; replace hy:=hy.le l2; replace h1:=h1.le l2
 refine(y02 hx.re h2 (by omega) (by omega)).mono λv V3 l3 ⟨r3,hv,h3⟩=>⟨r3,hv,?_⟩
 replace hx:=hx.le l3; replace hy:=hy.le l3; replace h1:=h1.le l3; replace h2:=h2.le l3
 refine(y02 hy.re h1 (by omega) (by omega)).mono λv V4 l4 ⟨r4,hv,h4⟩=>⟨r4,hv,?_⟩
 replace hx:=hx.le l4; replace hy:=hy.le l4; replace h1:=h1.le l4; replace h2:=h2.le l4; replace h3:=h3.le l4
 refine(b06 h3 h4 (by omega) (by omega)).mono λv V5 l5 ⟨r5,hv,h5⟩=>⟨r5,hv,?_⟩
 replace hx:=hx.le l5; replace hy:=hy.le l5; replace h1:=h1.le l5; replace h2:=h2.le l5
 refine(y02 hx.im h2 (by omega) (by omega)).mono λv V6 l6 ⟨r6,hv,h6⟩=>⟨r6,hv,?_⟩
 replace hy:=hy.le l6; replace h1:=h1.le l6; replace h2:=h2.le l6; replace h5:=h5.le l6
 refine(y02 hy.im h1 (by omega) (by omega)).mono λv V7 l7 ⟨r7,hv,h7⟩=>⟨r7,hv,?_⟩
 replace h1:=h1.le l7; replace h2:=h2.le l7; replace h5:=h5.le l7; replace h6:=h6.le l7
 refine(b06 h6 h7 (by omega) (by omega)).mono λv V8 l8 ⟨r8,hv,h8⟩=>⟨r8,hv,?_⟩
 replace h1:=h1.le l8; replace h2:=h2.le l8; replace h5:=h5.le l8
 refine(E08 h1 h2 (by omega) (by omega)).mono λv V9 l9 ⟨r9,hv,h9⟩=>⟨r9,hv,?_⟩
 exact(m06 (h5.le l9) (h8.le l9) h9 (z.canon.rep.add w.canon.rep) (by omega) (by omega) (by omega)).mono λv V10 _ ⟨r,hv,hr⟩=>⟨r,hv,r,rfl,hr⟩
theorem X0f{V:View}{x:NumV}{z:Cq}(hx:J01 V x z):a00 prog A0q #[x.val] V λv V'=>∃r:NumV,v=r.val/\J01 V' r (-z):=by
 obtain⟨e1,e2,e3⟩:=z.neg_eqs
 refine j0p x V _ ((S03 hx.re).mono λv V1 l1 ⟨r1,hv,h1⟩=>⟨r1,hv,?_⟩)
 exact(S03 (hx.im.le l1)).mono λv V2 l2 ⟨r2,hv,h2⟩=>⟨r2,hv,_,rfl,by rw[e1]; exact h1.le l2,by rw[e2]; exact h2,by rw[e3]; exact hx.under.le (View.le_trans l1 l2)⟩
theorem M0e{V:View}{x:NumV}{z:Cq}(hx:J01 V x z):a00 prog T0o #[x.val] V λv V'=>∃r:NumV,v=r.val/\J01 V' r z.conj:=by
 obtain⟨e1,e2,e3⟩:=z.conj_eqs
 exact C0m x V _ ((S03 hx.im).mono λv V1 l1 ⟨r1,hv,h1⟩=>⟨r1,hv,_,rfl,by rw[e1]; exact hx.re.le l1,by rw[e2]; exact h1,by rw[e3]; exact hx.under.le l1⟩)
theorem w07{V:View}{x y:NumV}{z w:Cq}(hx:J01 V x z)(hy:J01 V y w)(hz:z.sz<=2^40)(hw:w.sz<=2^40) :
 a00 prog O0g #[x.val,y.val] V λv V'=>∃r:NumV,v=r.val/\J01 V' r (z-w):=by
 refine k0p x y V _ ((X0f hy).mono λv V1 l1 ⟨r1,hv,h1⟩=>⟨r1,hv,?_⟩)
 rw[W0l]
 exact(g06 (hx.le l1) h1 hz (by rw[U0l]; exact hw)).mono λv V2 _ ⟨r,hv,hr⟩=>⟨r,hv,r,rfl,hr⟩
theorem n03{V:View}{x y:NumV}{z w:Cq}(hx:J01 V x z)(hy:J01 V y w)(hz:z.sz<=2^40)(hw:w.sz<=2^40) :
 a00 prog P0g #[x.val,y.val] V λv V'=>∃r:NumV,v=r.val/\J01 V' r (z*w):=by
 have zA:=Cq.wA hz; have zB:=Cq.wB hz; have zD:=Cq.wD hz
 have wA:=Cq.wA hw; have wB:=Cq.wB hw; have wD:=Cq.wD hw
 have s1:=c07 zA wA; have s2:=c07 zB wB; have s2':=w0u s2; have s3:=c07 zA wB; have s4:=c07 zB wA
 have s5:=o0h s1 s2'; have s6:=o0h s3 s4
 have s7:=A0e z.D w.D
 refine l0p x y V _ ((s05 hx.re hy.re (by omega) (by omega)).mono λv V1 l1 ⟨r1,hv,h1⟩=>⟨r1,hv,?_⟩)
 replace hx:=hx.le l1; replace hy:=hy.le l1
 refine(s05 hx.im hy.im (by omega) (by omega)).mono λv V2 l2 ⟨r2,hv,h2⟩=>⟨r2,hv,?_⟩
 replace hx:=hx.le l2; replace hy:=hy.le l2; replace h1:=h1.le l2
 refine(S03 h2).mono λv V3 l3 ⟨r3,hv,h3⟩=>⟨r3,hv,?_⟩
 replace hx:=hx.le l3; replace hy:=hy.le l3; replace h1:=h1.le l3
 refine(b06 h1 h3 (by omega) (by omega)).mono λv V4 l4 ⟨r4,hv,h4⟩=>⟨r4,hv,?_⟩
 replace hx:=hx.le l4; replace hy:=hy.le l4
 refine(s05 hx.re hy.im (by omega) (by omega)).mono λv V5 l5 ⟨r5,hv,h5⟩=>⟨r5,hv,?_⟩
 replace hx:=hx.le l5; replace hy:=hy.le l5; replace h4:=h4.le l5
 refine(s05 hx.im hy.re (by omega) (by omega)).mono λv V6 l6 ⟨r6,hv,h6⟩=>⟨r6,hv,?_⟩
 replace hx:=hx.le l6; replace hy:=hy.le l6; replace h4:=h4.le l6; replace h5:=h5.le l6
 refine(b06 h5 h6 (by omega) (by omega)).mono λv V7 l7 ⟨r7,hv,h7⟩=>⟨r7,hv,?_⟩
 replace hx:=hx.le l7; replace hy:=hy.le l7; replace h4:=h4.le l7
 refine(T02 hx).mono λv V8 l8 ⟨r8,hv,h8⟩=>⟨r8,hv,?_⟩
 replace hy:=hy.le l8; replace h4:=h4.le l8; replace h7:=h7.le l8
 refine(T02 hy).mono λv V9 l9 ⟨r9,hv,h9⟩=>⟨r9,hv,?_⟩
 replace h4:=h4.le l9; replace h7:=h7.le l9; replace h8:=h8.le l9
 refine(E08 h8 h9 (by omega) (by omega)).mono λv V10 l10 ⟨r10,hv,h10⟩=>⟨r10,hv,?_⟩
 refine(m06 (h4.le l10) (h7.le l10) h10 ?_ (by omega) (by omega) (by omega)).mono λv V11 _ ⟨r,hv,hr⟩=>⟨r,hv,r,rfl,hr⟩
 rw[<-Int.sub_eq_add_neg]; exact z.canon.rep.mul w.canon.rep
theorem X0b{V:View}{x y:NumV}{z w:Cq}(hx:J01 V x z)(hy:J01 V y w)(hz:z.sz<=2^40)(hw:w.sz<=2^40) :
 a00 prog J0o #[x.val,y.val] V λv _=>v = .bool (decide (z=w)):=by
 have zA:=Cq.wA hz; have zB:=Cq.wB hz; have zD:=Cq.wD hz
 have wA:=Cq.wA hw; have wB:=Cq.wB hw; have wD:=Cq.wD hw
 refine A0m x y V _ ((j08 hx.re hy.re (by omega) (by omega)).mono λv V1 l1 hv=>⟨_,hv,λh1 => ?_,λh1=>⟨(λh=>by cases h),λ_ => ?_⟩⟩)
 . have h1:z.A=w.A:=E0e.1 (by simpa using h1)
   refine(j08 (hx.im.le l1) (hy.im.le l1) (by omega) (by omega)).mono λv V2 l2 hv=>⟨_,hv,λh2 => ?_,λh2 => ?_⟩
   . have h2:z.B=w.B:=E0e.1 (by simpa using h2)
     refine(L0c (hx.under.le (View.le_trans l1 l2)) (hy.under.le (View.le_trans l1 l2)) ?_).mono λv V3 l3 hv=>⟨_,hv,?_⟩
     . split
       . rw[T0d]; omega
       . omega
     . have hD1:=z.D_pos
       have hD2:=w.D_pos
       congr 1
       by_cases e:z.D=w.D
       . have:z=w:=x0t h1 h2 e
         subst this; simp
       . have:z≠w:=by rintro rfl; exact e rfl
         simp only[this,decide_false]
         have h3:(if z.D=1 then 0 else z.D)≠(if w.D=1 then 0 else w.D):=by split<;>split<;>omega
         rw[if_neg h3]
         by_cases h:(if z.D=1 then 0 else z.D)<(if w.D=1 then 0 else w.D)
         . rw[if_pos h]; rfl
         . rw[if_neg h]; rfl
   . have h2:¬z.B=w.B:=λe=>by rw[E0e.2 e]at h2; simp at h2
     have:z≠w:=by rintro rfl; exact h2 rfl
     simp[this]
 . have h1:¬z.A=w.A:=λe=>by rw[E0e.2 e]at h1; simp at h1
   have:z≠w:=by rintro rfl; exact h1 rfl
   simp[this]
theorem n06{V:View}{x:NumV}{z:Cq}(hx:J01 V x z):a00 prog L0o #[x.val] V λv _=>v = .bool (decide (z.im=0)):=by
 refine B0m x V _ ?_
 have h1:=hx.im.2.len_zero
 have h2:=Cq.B_zero (z:=z)
 congr 1
 by_cases e:z.im=0
 . have:x.im.mag.len=0:=h1.2 (by rw[h2.2 e]; rfl)
   simp[e,this]
 . have:x.im.mag.len≠0:=λh=>e (h2.1 (by have:=h1.1 h; omega))
   simp only[e,decide_false,beq_eq_false_iff_ne,ne_eq]; omega
theorem O0c{V:View}{x y:NumV}{z w:Cq}(hx:J01 V x z)(hy:J01 V y w)(hz:z.sz<=2^40)(hw:w.sz<=2^40) :
 a00 prog s0q #[x.val,y.val] V λv _=>v = .int .i64 (z.cmp w):=by
 have zA:=Cq.wA hz; have zB:=Cq.wB hz; have zD:=Cq.wD hz
 have wA:=Cq.wA hw; have wB:=Cq.wB hw; have wD:=Cq.wD hw
 have zD':wn (z.D:Int).natAbs<=2^35:=zD
 have wD':wn (w.D:Int).natAbs<=2^35:=wD
 have s1:=c07 zA wD'; have s2:=c07 wA zD'; have s3:=c07 zB wD'; have s4:=c07 wB zD'
 have c1:cmpZ (z.A*w.D) (w.A*z.D)=cmpR z.re w.re:=by rw[H0t z.D_pos w.D_pos,<-z.canon.rep.re,<-w.canon.rep.re]
 have c2:cmpZ (z.B*w.D) (w.B*z.D)=cmpR z.im w.im:=by rw[H0t z.D_pos w.D_pos,<-z.canon.rep.im,<-w.canon.rep.im]
 refine m0p x y V _ ((T02 hy).mono λv V1 l1 ⟨r1,hv,h1⟩=>⟨r1,hv,?_⟩)
 replace hx:=hx.le l1; replace hy:=hy.le l1
 refine(y02 hx.re h1 (by omega) (by omega)).mono λv V2 l2 ⟨r2,hv,h2⟩=>⟨r2,hv,?_⟩
 replace hx:=hx.le l2; replace hy:=hy.le l2
 refine(T02 hx).mono λv V3 l3 ⟨r3,hv,h3⟩=>⟨r3,hv,?_⟩
 replace hx:=hx.le l3; replace hy:=hy.le l3; replace h2:=h2.le l3
 refine(y02 hy.re h3 (by omega) (by omega)).mono λv V4 l4 ⟨r4,hv,h4⟩=>⟨r4,hv,?_⟩
 replace hx:=hx.le l4; replace hy:=hy.le l4; replace h2:=h2.le l4
 refine(j08 h2 h4 (by omega) (by omega)).mono λv V5 l5 hv=>⟨_,hv,λhn => ?_,λhn => ?_⟩
 . rw[c1]at hn ⊢
   have hn:cmpR z.re w.re≠0:=by simpa using hn
   unfold Cq.cmp; rw[if_pos hn]
 . rw[c1]at hn
   have hn:¬cmpR z.re w.re≠0:=by simpa using hn
   replace hx:=hx.le l5; replace hy:=hy.le l5
   refine(T02 hy).mono λv V6 l6 ⟨r6,hv,h6⟩=>⟨r6,hv,?_⟩
   replace hx:=hx.le l6; replace hy:=hy.le l6
   refine(y02 hx.im h6 (by omega) (by omega)).mono λv V7 l7 ⟨r7,hv,h7⟩=>⟨r7,hv,?_⟩
   replace hx:=hx.le l7; replace hy:=hy.le l7
   refine(T02 hx).mono λv V8 l8 ⟨r8,hv,h8⟩=>⟨r8,hv,?_⟩
   replace hx:=hx.le l8; replace hy:=hy.le l8; replace h7:=h7.le l8
   refine(y02 hy.im h8 (by omega) (by omega)).mono λv V9 l9 ⟨r9,hv,h9⟩=>⟨r9,hv,?_⟩
   replace h7:=h7.le l9
   refine(j08 h7 h9 (by omega) (by omega)).mono λv V10 l10 hv=>⟨_,hv,?_⟩
   unfold Cq.cmp; rw[if_neg hn,c2]
theorem p0h{V:View}{x y:NumV}{w:Cq}(hy:J01 V y w):a00 prog q0s #[x.val,y.val] V λv V'=>∃r:NumV,v=r.val/\J01 V' r w :=
 I0q x y V _ ⟨y,rfl,hy⟩
def lenB(n:Nat):Bool:=[1,2,4,8,16,32,64].contains n
theorem x0u:∀n∈List.range 65,1<=n->(i64.wrap (BitVec.toNat ((BitVec.ofInt i64.bits (n:Int)) &&& (BitVec.ofInt i64.bits (i64.wrap ((n:Int)-1)))))==0)=lenB n:=by
 decide +kernel
theorem T0m{n:Nat}(h:lenB n=true):1<=n/\n<=64:=by
 simp[lenB]at h; omega
theorem T06{V:View}{n:Int}(h0:0<=n):a00 prog y0a #[.int .i64 n] V λv _=>v = .bool (lenB n.toNat):=by
 refine P0d n V _ ⟨λh1=>⟨λh2 => ?_,λh2 => ?_⟩,λh1=>⟨λh=>absurd h (by simp),λ_ => ?_⟩⟩
 . simp only[decide_eq_true_eq]at h1 h2
   have:=x0u n.toNat (by simp; omega) (by omega)
   rw[Int.toNat_of_nonneg h0]at this
   rw[this]
 . simp only[decide_eq_false_iff_not]at h2
   congr 1; symm
   rw[Bool.eq_false_iff]; intro e
   have:=T0m e; omega
 . simp only[decide_eq_false_iff_not]at h1
   congr 1; symm
   rw[Bool.eq_false_iff]; intro e
   have:=T0m e; omega
theorem Z09{V:View}(p q:Sl):a00 prog O0a #[p.v,q.v] V λv _=>v = .bool (lenB q.len&&decide (p.len=q.len)):=by
 refine n0a p q V _ ((T06 (Int.natCast_nonneg _)).mono λv V1 l1 hv=>⟨_,hv,λh => ?_,λh => ?_⟩)
 . rw[Int.toNat_natCast]at h
   rw[h,Bool.true_and]; congr 1
   rw[Bool.eq_iff_iff]; simp; omega
 . rw[Int.toNat_natCast]at h
   rw[h,Bool.false_and]
def ratQ(r:RatV):Cq:=if r.den=0 then⟨(r.re:Rat),(r.im:Rat)⟩else⟨(r.re:Rat) / (r.den:Rat),(r.im:Rat) / (r.den:Rat)⟩
def ratI(r:RatV):Prop:=(-9223372036854775808<=r.re/\r.re<=9223372036854775807)/\(-9223372036854775808<=r.im/\r.im<=9223372036854775807)/\(-9223372036854775808<=r.den/\r.den<=9223372036854775807)
def ratC(_:View)(x:List Value)(r:RatV):Prop:=x=r.val.cells.toList
def H0d(V:View)(s:Sl)(rs:List RatV):Prop:=A00 3 ratC V s rs
theorem H0d.le{V V':View}(hle:V.le V'){s:Sl}{rs:List RatV}(h:H0d V s rs):H0d V' s rs:=A00.le (P:=ratC) (V:=V) (V':=V') (λ_ _ h=>h) hle h
theorem P0c{V:View}{r:RatV}(h:ratI r):a00 prog t0q #[r.val] V λv V'=>∃x:NumV,v=x.val/\J01 V' x (ratQ r):=by
 obtain⟨⟨a1,a2⟩,⟨b1,b2⟩,⟨c1,c2⟩⟩:=h
 refine n0p r V _ ⟨λh0 => ?_,λh0 => ?_⟩
 . have h0:r.den=0:=by simpa using h0
   refine(H0a a1 a2 b1 b2 (by omega) (by omega) (by omega)).mono λv V1 _ ⟨x,hv,hx⟩=>⟨x,0,hv,x,rfl,?_⟩
   have e:ratQ r=⟨(r.re:Rat) / ((1:Int):Rat),(r.im:Rat) / ((1:Int):Rat)⟩:=by
    unfold ratQ; rw[if_pos h0]; simp only[Rat.div_def,Cq.mk.injEq]; constructor<;>grind
   rw[e]; exact hx
 . have h0:r.den≠0:=by simpa using h0
   refine(H0a a1 a2 b1 b2 c1 c2 h0).mono λv V1 _ ⟨x,hv,hx⟩=>⟨x,0,hv,x,rfl,?_⟩
   unfold ratQ; rw[if_neg h0]; exact hx
theorem q0h(r:NumV):∀v∈[Value.bool r.re.neg,r.re.mag.v,Value.bool r.im.neg,r.im.mag.v,r.under.v],Value.oneCell' v=true:=by
 intro v hv
 simp only[List.mem_cons,List.not_mem_nil,or_false]at hv
 rcases hv with rfl|rfl|rfl|rfl|rfl<;>rfl
theorem a0a{V:View}{b:Nat}{l:List Value}(h:V b=some l.toArray):V.has (some (Addr.mk b 0 none)) l:=by
 intro j v hj
 rw[t07 h]; simpa using hj
theorem d07{V:View}{s:Sl}{zs:List Cq}{a:Int}(h:b02 V s zs)(ha:0<=a)(ha1:a<=1)(hn:zs.length<=2^32)(hn1:1<=zs.length) :
 a00 prog m0a #[s.v,.int .i64 a] V λv V'=>∃r:Sl,v=r.v/\b02 V' r (T01 zs a.toNat):=by
 have hl:=h.len
 refine O09 s a V _ (λ_ x V'=>∃l,x.t6=a+2*x.t5l/\2*x.t5l+a.toNat<=zs.length+1/\s03 5 x.t5l x.t5c x.o5 l/\j05 V' l ((List.range x.t5l).map λk=>nth zs (a.toNat+2*k)))
  (λ_ x _=>zs.length+2-2*x.t5l) ⟨⟨[],by simp,by simp; omega,s03.nil,rfl⟩,?_⟩
 rintro⟨n,c,t,o⟩ V1 l1 ⟨l,ht,hm,hlo,hin⟩
 simp only at ht hm hlo hin ⊢
 refine⟨λhlt => ?_,λhge => ?_⟩
 . simp only[decide_eq_true_eq]at hlt
   obtain⟨hb,x,hx,hs,hnx⟩:=(h.le l1).get (t:=t) (by omega) (by omega)
   refine⟨hb,x,hx,hs,λb V2 l2 hf hV2 => ?_⟩
   refine⟨l,_,hlo,a0a (l:=[.bool x.re.neg,x.re.mag.v,.bool x.im.neg,x.im.mag.v,x.under.v]) hV2,rfl,q0h x,?_,?_,λc1 l3 hl3 => ?_⟩
   . simp only[maxLen]; omega
   . omega
   . have e:i64.wrap (t+2)=t+2:=i64w (by omega) (by omega)
     refine⟨⟨_,by rw[e]; simp; omega,by omega,hl3,?_⟩,by omega⟩
     rw[<-T0i]
     have e3:a.toNat+2*n=t.toNat:=by omega
     rw[e3]
     exact(hin.le l2).push (hnx.le l2)
 . simp only[decide_eq_false_iff_not]at hge
   intro b V3 l3 hb
   refine⟨_,rfl,?_⟩
   have e:n=(zs.length+1-a.toNat) / 2:=by omega
   unfold T01
   rw[<-e]
   exact o06 hlo hb (hin.le l3) (by simp)
theorem K05:∀(m:Nat) {V:View} {p w:Sl} {zs ws:List Cq} (S T:Nat),m<=6->zs.length=2^m->ws.length=2^m->b02 V p zs->b02 V w ws ->
 (∀i,i<2^m->(nth zs i).sz<=S)->(∀i,i<2^m->(nth ws i).sz<=T)->2^m*(S+T+2)<=2^39 ->
 y0d prog l0a #[p.v,w.v] D0i V λn cap l rest V'=>n=(d02 m zs ws).length/\cap=n/\rest=[]/\j05 V' l (d02 m zs ws)
 | m,V,p,w,zs,ws,S,T,hm,hz,hw,hp,hq,hS,hT,hsz=>by
   have hpl:=hp.len
   have hwl:=hq.len
   have hpow:2^m<=64:=Nat.pow_le_pow_right (n:=2) (by omega) hm
   have hpos:0<2^m:=Nat.pow_pos (by omega)
   rw[E02]
   refine P09 p w V _ (λc x V'=>∃m' zs' ws',m=m'+1/\zs'=d02 m' (T01 zs 0) (T01 ws 0)/\ws'=d02 m' (T01 zs 1) (T01 ws 0) /\
    b02 V' c.t8 zs'/\b02 V' c.t9 ws'/\0<=x.t36/\x.t36<=(2^m':Nat) /\
    j05 V' x.o15 (e0c (2^m') x.t36.toNat (λi=>nth zs' i+nth ws' i*nth ws i) (λi=>nth zs' i-nth ws' i*nth ws i)))
    (λ_ x _=>2^m-x.t36.toNat) ⟨⟨by omega,by omega,by omega,by omega⟩,λh1 => ?_,λh1 => ?_⟩
   . have h1:p.len=1:=by have:(p.len:Int)=1:=(by simpa using h1); omega
     have hm0:m=0:=by
      rcases Nat.eq_zero_or_pos m with h|h
      . exact h
      . have:2^1<=2^m:=Nat.pow_le_pow_right (by omega) h
        omega
     subst hm0
     obtain⟨hb,x,hx,hs,hnx⟩:=hp.get (t:=0) (by omega) (by simp[hz])
     have hset:=(j05.zeros V 1).set (i:=0) (by simp) hnx
     refine⟨hb,x,hx,hs,⟨by omega,by omega⟩,?_,?_,?_⟩
     . simp[h1]
     . refine⟨by simp[h1],?_⟩
       intro e
       have h5:=M01.length hset
       simp only[h1]at e
       have h6:(0:Nat)=5:=(congrArg List.length e).symm.trans h5
       omega
     . refine⟨by simp[h1],rfl,rfl,?_⟩
       simp only[h1]
       exact hset
   . have h1:p.len≠1:=by intro e; simp[e]at h1
     obtain ⟨m', rfl⟩ : ∃ m', m = m' + 1 := ⟨m - 1, by rcases Nat.eq_zero_or_pos m with h | h; · subst h; simp at hz; omega
                                                       . omega⟩
     have hp2:2^(m'+1)=2*2^m':=by rw[Nat.pow_succ]; omega
     have hmul:2^(m'+1)*(S+T+2)=2*(2^m'*(S+T+2)):=by rw[hp2,Nat.mul_assoc]
     have bz:∀a,a<=1->∀i,i<2^m'->(nth (T01 zs a) i).sz<=S:=by
      intro a ha i hi; rw[B09 (by omega)]; exact hS _ (by omega)
     have bw:∀i,i<2^m'->(nth (T01 ws 0) i).sz<=T:=by
      intro i hi; rw[B09 (by omega)]; exact hT _ (by omega)
     refine(d07 hq (Int.le_refl 0) (by omega) (by omega) (by omega)).mono λv V1 l1 ⟨r1,hv,hr1⟩=>⟨r1,hv,?_⟩
     refine(d07 (hp.le l1) (Int.le_refl 0) (by omega) (by omega) (by omega)).mono λv V2 l2 ⟨r2,hv,hr2⟩=>⟨r2,hv,?_⟩
     have ne:∀zs ws,d02 m' zs ws≠[]:=by
      intro zs ws e
      have:=E02 m' zs ws
      rw[e]at this; simp at this
      have:0<2^m':=Nat.pow_pos (by omega)
      omega
     refine(C0f (ne _ _) (K05 m' S T (by omega) (by simp[f03]; omega) (by simp[f03]; omega) hr2 (hr1.le l2) (bz 0 (by omega)) bw (by omega))).mono λv V3 l3 ⟨r3,hv,hr3⟩=>⟨r3,hv,?_⟩
     refine(d07 (hp.le (View.le_trans l1 (View.le_trans l2 l3))) (a:=1) (by omega) (by omega) (by omega) (by omega)).mono λv V4 l4 ⟨r4,hv,hr4⟩=>⟨r4,hv,?_⟩
     refine(C0f (ne _ _) (K05 m' S T (by omega) (by simp[f03]; omega) (by simp[f03]; omega) hr4 (hr1.le (View.le_trans l2 (View.le_trans l3 l4))) (bz 1 (by omega)) bw (by omega))).mono λv V5 l5 ⟨r5,hv,hr5⟩=>⟨r5,hv,?_⟩
     have le5:View.le V V5:=View.le_trans l1 (View.le_trans l2 (View.le_trans l3 (View.le_trans l4 l5)))
     have hdiv:i64.wrap (Int.tdiv (p.len:Int) 2)=((2^m':Nat):Int):=by
      have e:Int.tdiv (p.len:Int) 2=((2^m':Nat):Int):=by
       rw[Int.tdiv_eq_ediv_of_nonneg (by omega)]; omega
      rw[e]; exact i64w (by omega) (by omega)
     rw[hdiv]
     refine⟨⟨m',_,_,rfl,rfl,rfl,hr3.le (View.le_trans l4 l5),hr5,Int.le_refl 0,Int.natCast_nonneg _,?_⟩,?_⟩
     . simp only[Int.toNat_zero,M0m,Int.toNat_natCast,hpl,hz,hp2]
       exact j05.zeros _ _
     rintro⟨t,o⟩ V6 l6 ⟨m2,zs',ws',em,rfl,rfl,h8,h9,h0,h1',hin⟩
     have em:m'=m2:=by omega
     subst em
     simp only at h8 h9 h0 h1' hin ⊢
     have lz:=E02 m' (T01 zs 0) (T01 ws 0)
     have lw:=E02 m' (T01 zs 1) (T01 ws 0)
     have l8:=h8.len
     have l9:=h9.len
     have lo:∀k a b,(e0c (2^m') k a b).length=2*2^m':=by intro k a b; simp[e0c]
     refine⟨λhlt => ?_,λhge => ?_⟩
     . simp only[decide_eq_true_eq]at hlt
       have hk:t.toNat<2^m':=by omega
       obtain⟨hb4,x4,hx4,hs4,hn4⟩:=h9.get h0 (by omega)
       obtain⟨hb5,x5,hx5,hs5,hn5⟩:=(hq.le (View.le_trans le5 l6)).get h0 (by omega)
       have sE:=C08 m' (T01 zs 0) (T01 ws 0) S T (by simp[f03]; omega) (by simp[f03]; omega) (bz 0 (by omega)) bw t.toNat hk
       have sO:=C08 m' (T01 zs 1) (T01 ws 0) S T (by simp[f03]; omega) (by simp[f03]; omega) (bz 1 (by omega)) bw t.toNat hk
       have sW:=hT t.toNat (by omega)
       have hm2:S+T+2<=2^m'*(S+T+2):=Nat.le_mul_of_pos_left _ (Nat.pow_pos (by omega))
       have sU:=p03 (nth (d02 m' (T01 zs 1) (T01 ws 0)) t.toNat) (nth ws t.toNat)
       refine⟨hb4,x4,hx4,hs4,hb5,x5,hx5,hs5,(n03 hn4 hn5 (by omega) (by omega)).mono λv V7 l7 ⟨r6,hv,hr6⟩=>⟨r6,hv,?_⟩⟩
       obtain⟨hb6,x6,hx6,hs6,hn6⟩:=(h8.le l7).get h0 (by omega)
       refine⟨hb6,x6,hx6,hs6,hb6,x6,hx6,hs6,(g06 hn6 hr6 (by omega) (by omega)).mono λv V8 l8' ⟨r7,hv,hr7⟩=>⟨r7,hv,?_⟩⟩
       refine(w07 (hn6.le l8') (hr6.le l8') (by omega) (by omega)).mono λv V9 l9' ⟨r8,hv,hr8⟩=>⟨r8,hv,⟨h0,?_⟩,?_,?_⟩
       . omega
       . exact M01.room hin (by rw[lo]; omega)
       have ek:i64.wrap (t+((2^m':Nat):Int))=t+((2^m':Nat):Int):=i64w (by omega) (by omega)
       have ek2:Int.toNat (t+((2^m':Nat):Int))=t.toNat+2^m':=by omega
       have et:i64.wrap (t+1)=t+1:=i64w (by omega) (by omega)
       have et2:(t+1).toNat=t.toNat+1:=by omega
       rw[ek,ek2]
       have in9:=hin.le (View.le_trans l7 (View.le_trans l8' l9'))
       have s1:=in9.set (i:=t.toNat) (by rw[lo]; omega) (hr7.le l9')
       have s2:=s1.set (i:=t.toNat+2^m') (by rw[List.length_set,lo]; omega) hr8
       refine⟨⟨by omega,by omega⟩,?_,⟨m',_,_,rfl,rfl,rfl,h8.le (View.le_trans l7 (View.le_trans l8' l9')),h9.le (View.le_trans l7 (View.le_trans l8' l9')),by rw[et]; omega,by rw[et]; omega,?_⟩,by simp only[et,et2]; omega⟩
       . exact M01.room s1 (by rw[List.length_set,lo]; omega)
       . simp only[et,et2]
         rw[<-w0p hk]
         exact s2
     . simp only[decide_eq_false_iff_not]at hge
       have e:t.toNat=2^m':=by omega
       rw[e]at hin
       have e2:e0c (2^m') (2^m') (λi=>nth (d02 m' (T01 zs 0) (T01 ws 0)) i+nth (d02 m' (T01 zs 1) (T01 ws 0)) i*nth ws i)
        (λi=>nth (d02 m' (T01 zs 0) (T01 ws 0)) i-nth (d02 m' (T01 zs 1) (T01 ws 0)) i*nth ws i)=d02 (m'+1) zs ws:=by
        have h2:=f0h (d02 (m'+1) zs ws)
        rw[E02]at h2
        rw[<-h2]
        unfold e0c
        rw[<-hp2]
        apply List.map_congr_left
        intro i hi
        have hi:i<2^(m'+1):=by simpa using hi
        rw[d02,U0b hi]
        split
        . rfl
        . rw[if_pos (by omega)]
       rw[e2]at hin
       refine⟨⟨by omega,?_⟩,by omega,by simp,by simp,hin⟩
       intro eo
       subst eo
       have:=M01.length hin
       rw[E02]at this
       simp at this; omega
end Go.Proofs.YtblaagclfalaaaaGreat
namespace Go.Proofs.YtblaagclfalaaaaGreat
open Go Go.Vc Go.Proofs Go.ChangeShapes Go.RowKit
structure T0s (P:Program) (t:TypeId):Prop where
 fields:∃f0 f1 f2:Field,P.underlying t=some (.struct #[f0,f1,f2])/\(f0.offset=0/\f1.offset=1/\f2.offset=2) /\
  (P.underlying f0.type=some (.int .i64)/\P.underlying f1.type=some (.int .i64)/\P.underlying f2.type=some (.int .i64))/\(P.cellsOf f0.type=1/\P.cellsOf f1.type=1/\P.cellsOf f2.type=1)
 cells:P.cellsOf t=3
section
variable {H:Type} {enc:TypeId×Value->H} {P:Program} {w:World} {base:Nat} {spare:Nat->Bool} {held:Bool}
theorem Q0n{t:TypeId}{fuel:Nat}{cs:List Value}{x:DataW H×List MemPlace}(ht:T0s P t)(h:DataW.trod enc P w base spare held fuel t cs=some x):∃r:RatV,ratI r/\cs=r.val.cells.toList:=by
 obtain⟨f0,f1,f2,hR,⟨o0,o1,o2⟩,⟨i0,i1,i2⟩,c0,c1,c2⟩:=ht.fields
 obtain⟨xs,n,_,_,hl,hxs,hf⟩:=DataW.trod_struct hR h
 rw[ht.cells]at hl
 match cs,hl with
 | [a,b,c],_ =>
   have g0:=hf 0 f0 rfl
   have g1:=hf 1 f1 rfl
   have g2:=hf 2 f2 rfl
   rw[o0,c0]at g0
   rw[o1,c1]at g1
   rw[o2,c2]at g2
   have hs:xs.length=3:=hxs
   match xs,hs with
   | [y0, y1, y2], _ =>
     obtain⟨n0,e0,_,w0⟩:=DataW.trod_int i0 g0
     obtain⟨n1,e1,_,w1⟩:=DataW.trod_int i1 g1
     obtain⟨n2,e2,_,w2⟩:=DataW.trod_int i2 g2
     simp at e0 e1 e2
     subst e0; subst e1; subst e2
     exact⟨⟨n0,n1,n2⟩,⟨bounds_i64 w0,bounds_i64 w1,bounds_i64 w2⟩,rfl⟩
end
theorem U0s{H:Type}{enc:TypeId×Value->H}{P:Program}{w:World}{base:Nat}{spare:Nat->Bool}{held:Bool}{e:TypeId}{v:Value}{d:DataW H}{ps:List MemPlace}(he:T0s P e)
 (h:DataW.Trod enc P w base spare held e v d ps):∃r:RatV,ratI r/\v=r.val:=by
 obtain⟨fuel,h⟩:=h
 obtain⟨r,hr,e1⟩:=Q0n he h
 refine⟨r,hr,?_⟩
 cases v with
 | agg cs =>
   have e2:cs.toList=[.int .i64 r.re,.int .i64 r.im,.int .i64 r.den]:=e1
   have:cs=#[.int .i64 r.re,.int .i64 r.im,.int .i64 r.den]:=by rw[<-Array.toList_inj]; exact e2
   rw[this]; rfl
 | _=>exact absurd (congrArg List.length e1) (by simp[Value.cells,RatV.val])
theorem a00.fits{P:Program}{f:FuncId}{args:Array Value}{r:Value}{V:View}(h:a00 P f args V λv _=>v=r){w:World}(hw:V.In w) :
 Calls P f args w λe w'=>e = .returned r/\Below w.heap.size w w' :=
 (h w hw).mono λ_ _ ⟨_,_,he,_,_,_,hb,hr⟩=>⟨by rw[he,hr],hb⟩
theorem N0e{H:Type}{enc:TypeId×Value->H}{P:Program}(hl:laidOutB P=true){W W':World}(hb:Below W.heap.size W W') :
 ∀ {ts:List TypeId} {vs:List Value} {ds:List (DataW H)} {ps:List MemPlace},(∀t∈ts,P.readableRec t=true/\t<P.types.size)->(∀p∈ps,p.block<W.heap.size) ->
 DataW.TrodAll enc P W 0 (λ_=>true) true ts vs ds ps->DataW.TrodAll enc P W' 0 (λb=>decide (b<W.heap.size)) true ts vs ds ps
 | [],[],[],_,_,_,h=>h
 | t::ts,v::vs,d::ds,ps,ht,hlt,⟨p,q,h1,h2,e⟩=>by
   subst e
   exact⟨p,q,Below.trod hl (ht t (by simp)).1 (ht t (by simp)).2 h1 hb (λx hx=>hlt x (by simp[hx])),
    N0e hl hb (λt' ht'=>ht t' (by simp[ht'])) (λx hx=>hlt x (by simp[hx])) h2,rfl⟩
 | [],[],_::_,_,_,_,h=>h.elim
 | [],_::_,_,_,_,_,h=>h.elim
 | _::_,[],_,_,_,_,h=>h.elim
 | _::_,_::_,[],_,_,_,h=>h.elim
theorem A0l{H:Type}{enc:TypeId×Value->H}{P:Program}{f:Func}{s:ChangeSpec}{apart fresh handsOn:Bool}{W W':World}{args:Array Value}{v:Value}{ds:List (DataW H)}{before:List MemPlace}
 (hl:laidOutB P=true) (ht:∀t∈f.params.toList,P.readableRec t=true/\t<P.types.size)
 (hW:DataW.Whole enc P f.params.toList s.vars apart W args.toList ds [] before) (hA:DataW.TrodAll enc P W 0 (λ_=>true) true f.params.toList args.toList ds before)
 (hres:∀(b:Nat) (sp:Nat->Bool) (hd:Bool),DataW.TrodAll enc P W' b sp hd f.resultTypes.toList (v.resultList f.resultTypes.size) (s.fn H (ds++[])).results [])
 (hargs:(s.fn H (ds++[])).args=ds) (hvars:∀sp:Nat->Bool,DataW.TrodVars enc P W' sp s.vars (s.fn H (ds++[])).vars []) (hb:Below W.heap.size W W'):s.post enc P f apart fresh handsOn false W args v W':=by
 refine⟨ds,[],before,[],before,[],hW,hres _ _ _,?_,hvars _,World.keptBut_mono (λp hp=>⟨hp,.inr (.inl hp)⟩) (hb.frame (·∈before)),λh=>Bool.noConfusion h⟩
 rw[hargs]
 exact N0e hl hb ht (λp hp=>hW.lt p hp) hA
def Q07(w:World):View:=λb=>match w.heap[b]? with|some (.cells cs _ _)=>some cs|_=>none
theorem B0l(w:World):(Q07 w).In w:=by
 intro i cs hi
 unfold Q07 at hi
 split at hi
 . rename_i cs' T fr hw
   simp at hi; subst hi
   exact⟨T,fr,hw⟩
 . simp at hi
theorem d0i{w:World}{p:Addr}{v:Value}(h:w.cell? p=some v):(Q07 w).load (some p)=some v:=by
 unfold World.cell? at h
 unfold View.load Q07
 split at h
 . rename_i c T fr hw
   simp only[hw]
   split at h
   . simp at h
   . rename_i hs
     simp only[hs]
     simpa using h
 . simp at h
section
variable {H:Type} {enc:TypeId×Value->H} {P:Program} {w:World} {base:Nat} {spare:Nat->Bool} {held:Bool}
theorem y0r{α:Type}{sz:Nat}{t e:TypeId}(ht:P.underlying t=some (.slice e))(hc:P.cellsOf e=sz)(ok:α->Prop)(E:View->List Value->α->Prop)
 (he:∀ {fuel:Nat} {cs:List Value} {x:DataW H×List MemPlace},DataW.trod enc P w base spare held fuel e cs=some x->∃z,ok z/\E (Q07 w) cs z)
 {fuel:Nat} {cs:List Value} {x:DataW H×List MemPlace} (h:DataW.trod enc P w base spare held fuel t cs=some x) :
 ∃(s:Sl) (zs:List α),cs=[s.v]/\A00 sz E (Q07 w) s zs/\zs.length<=maxLen/\∀z∈zs,ok z:=by
 rcases Go.Deep.open_slice ht h with⟨h1,_⟩|⟨a,l0,c0,m,n,D,Pl,h1,_,hl,hm,hmm,_,hx⟩
 . subst h1
   exact⟨Sl.mk none 0 0,[],rfl,A00.nil,Nat.zero_le _,by intro r hr; simp at hr⟩
 . subst h1
   have hlm:l0<=m:=by rw[hmm]; split<;>omega
   have key:∀k,k<=l0->∃(rs:List α) (o:List Value),rs.length=k/\(∀r∈rs,ok r)/\M01 sz E (Q07 w) o rs/\(Q07 w).has (some a) o:=by
    intro k
    induction k with
    | zero=>intro _; exact⟨[],[],rfl,by intro r hr; simp at hr,rfl,by intro j v hj; simp at hj⟩
    | succ k ih =>
      intro hk
      obtain⟨rs,o,hrl,hri,hcs,ho⟩:=ih (by omega)
      obtain⟨cs',g1,g2⟩:=hx k (by omega)
      obtain⟨r,hr,er⟩:=he g2
      rw[hc]at g1
      obtain⟨_,hcl,hcell⟩:=World.cells?_some g1
      have hol:=hcs.length
      refine⟨rs++[r],o++cs',by simp[hrl],?_,hcs.append (M01.one hcl er),?_⟩
      . intro x hx
        rcases List.mem_append.1 hx with h|h
        . exact hri x h
        . simp at h; subst h; exact hr
      . intro j v hj
        by_cases hjo:j<o.length
        . rw[List.getElem?_append_left hjo]at hj
          exact ho j v hj
        . rw[List.getElem?_append_right (by omega)]at hj
          have hj3:j-o.length<sz:=by
           rcases Nat.lt_or_ge (j-o.length) cs'.length with h|h
           . omega
           . rw[List.getElem?_eq_none h]at hj; simp at hj
          have hcj:=hcell (j-o.length) hj3
          rw[hj,F0e]at hcj
          have e:k*sz+(j-o.length)=j:=by rw[hol,hrl]; rw[hol,hrl]at hjo; omega
          rw[e]at hcj
          exact d0i hcj
   obtain⟨rs,o,hrl,hri,hcs,ho⟩:=key l0 (Nat.le_refl _)
   exact⟨Sl.mk (some a) l0 c0,rs,rfl,⟨hrl.symm,hl,λ_=>rfl,o,ho,hcs⟩,by omega,hri⟩
theorem C0l{v x:Value}(h:v.cells.toList=[x])(hv:∃a l c,v = .slice a l c):v=x:=by
 obtain⟨a,l,c,rfl⟩:=hv
 simpa [Value.cells]using h
theorem u0f{t e:TypeId}{v:Value}{d:DataW H}{ps:List MemPlace}(ht:P.underlying t=some (.slice e))(he:T0s P e)(hv:∃a l c,v = .slice a l c)(h:DataW.Trod enc P w base spare held t v d ps) :
 ∃(s:Sl) (rs:List RatV),v=s.v/\H0d (Q07 w) s rs/\rs.length<=maxLen/\∀r∈rs,ratI r:=by
 obtain⟨fuel,h⟩:=h
 obtain⟨s,zs,e1,h1,h2,h3⟩:=y0r ht he.cells ratI ratC (λg=>Q0n he g) h
 exact⟨s,zs,C0l e1 hv,h1,h2,h3⟩
end
end Go.Proofs.YtblaagclfalaaaaGreat
namespace Go.Proofs.YtblaagclfalaaaaGreat
open Go Go.Vc Go.Proofs
theorem H0p{V:View}{b:Nat}(hb:V b=some #[.int .u32 1]):i02 V ⟨some ⟨b,0,none⟩,1,1⟩ 1:=by
 have:dig 1=[1]:=by rw[a07 (by omega)]; simp[J05]
 unfold i02; rw[this]
 exact L03.of_block (by rw[hb]; rfl) rfl (Nat.le_refl _) (by intro d hd; simp at hd; omega)
theorem I0v:wn 1<=2^43:=wn64 (by omega)
theorem L0t{z:Cq}:z.A=0↔z.re=0:=by
 have h:=z.canon.rep
 have hD:=a06 h.pos
 rw[h.re]
 constructor
 . intro e; rw[e]; simp[Rat.div_def]
 . intro e
   have:(z.A:Rat)=0:=by
    have:(z.A:Rat)=(z.A:Rat) / (z.D:Rat)*(z.D:Rat):=by rw[Rat.div_mul_cancel hD]
    rw[this,e]; simp
   exact_mod_cast this
theorem B_zero{z:Cq}:z.B=0↔z.im=0:=by
 have h:=z.canon.rep
 have hD:=a06 h.pos
 rw[h.im]
 constructor
 . intro e; rw[e]; simp[Rat.div_def]
 . intro e
   have:(z.B:Rat)=0:=by
    have:(z.B:Rat)=(z.B:Rat) / (z.D:Rat)*(z.D:Rat):=by rw[Rat.div_mul_cancel hD]
    rw[this,e]; simp
   exact_mod_cast this
theorem k08{V:View}{x:NumV}{z:Cq}(h:J01 V x z)(hz:z.sz<=2^40):a00 Tryz.prog N0g #[x.val] V λv _=>v = .bool (decide (z≠Cq.zero)):=by
 have zA:=Cq.wA hz; have zB:=Cq.wB hz
 refine c0l x V _ ?_
 have a1:=h.re.2.len; have a2:=h.im.2.len
 have b1:=h.re.2.len_zero; have b2:=h.im.2.len_zero
 have c1:x.re.mag.len<=2^50:=by
  have:x.re.mag.len=wn z.A.natAbs:=by rw[wn]; exact a1.symm▸rfl
  omega
 have c2:x.im.mag.len<=2^50:=by
  have:x.im.mag.len=wn z.B.natAbs:=by rw[wn]; exact a2.symm▸rfl
  omega
 rw[i64w (by omega) (by omega)]
 have d1:x.re.mag.len=0↔z.re=0:=by rw[b1,<-L0t]; omega
 have d2:x.im.mag.len=0↔z.im=0:=by rw[b2,<-B_zero]; omega
 have e:(z≠Cq.zero)↔((x.re.mag.len:Int)+(x.im.mag.len:Int)>0):=by
  constructor
  . intro hne
    rcases Nat.eq_zero_or_pos x.re.mag.len with p|p
    . rcases Nat.eq_zero_or_pos x.im.mag.len with q|q
      . exact absurd (Cq.ext' (d1.1 p) (d2.1 q)) hne
      . omega
    . omega
  . rintro hp rfl
    have p:=d1.2 rfl; have q:=d2.2 rfl
    omega
 simp only[e]
theorem Rep.div{z w:Cq}{A B a b:Int}{D d n:Nat}(hw:Rep w A B D)(ht:Rep (z*⟨(A:Rat),-(B:Rat)⟩) a b d)(hn:(n:Int)=A*A+B*B)(h0:n≠0):Rep (z.div w) (a*D) (b*D) (d*n):=by
 have hD:=a06 hw.pos
 have hd:=a06 ht.pos
 have hn0:=a06 h0
 have hN:(n:Rat)=(A:Rat)*A+B*B:=by exact_mod_cast hn
 have t1:=ht.re; have t2:=ht.im
 rw[f02]at t1; rw[g02]at t2
 dsimp only at t1 t2
 refine⟨Nat.mul_ne_zero ht.pos h0,?_,?_⟩
 . show(z.re*w.re+z.im*w.im) / (w.re*w.re+w.im*w.im)=_
   rw[hw.re,hw.im,Rat.intCast_mul,Rat.natCast_mul,Rat.intCast_natCast]
   have e1:z.re*((A:Rat) / (D:Rat))+z.im*((B:Rat) / (D:Rat))=(a:Rat) / (d:Rat) / (D:Rat):=by rw[<-t1]; grind
   have e2:(A:Rat) / (D:Rat)*((A:Rat) / (D:Rat))+(B:Rat) / (D:Rat)*((B:Rat) / (D:Rat))=(n:Rat) / ((D:Rat)*(D:Rat)):=by rw[hN]; grind
   rw[e1,e2]; grind
 . show(z.im*w.re-z.re*w.im) / (w.re*w.re+w.im*w.im)=_
   rw[hw.re,hw.im,Rat.intCast_mul,Rat.natCast_mul,Rat.intCast_natCast]
   have e1:z.im*((A:Rat) / (D:Rat))-z.re*((B:Rat) / (D:Rat))=(b:Rat) / (d:Rat) / (D:Rat):=by rw[<-t2]; grind
   have e2:(A:Rat) / (D:Rat)*((A:Rat) / (D:Rat))+(B:Rat) / (D:Rat)*((B:Rat) / (D:Rat))=(n:Rat) / ((D:Rat)*(D:Rat)):=by rw[hN]; grind
   rw[e1,e2]; grind
theorem D0f(A B:Int):Rep ⟨(A:Rat),-(B:Rat)⟩ A (-B) 1:=by
 refine⟨by omega,?_,?_⟩
 . rw[Rat.div_def]; simp; grind
 . rw[Rat.div_def]; simp; grind
theorem Q0c{V:View}{x y:NumV}{z w:Cq}(hx:J01 V x z)(hy:J01 V y w)(hz:z.sz<=2^36)(hw:w.sz<=2^36) :
 a00 Tryz.prog P0k #[x.val,y.val] V λv V'=>∃(r:NumV) (e:Int),v = .tuple #[r.val,.int .i64 e]/\(w=Cq.zero->e=3/\J01 V' r Cq.zero)/\(w≠Cq.zero->e=0/\J01 V' r (z.div w)):=by
 have hw40:w.sz<=2^40:=by omega
 have wA:=Cq.wA hw40; have wB:=Cq.wB hw40; have wD:=Cq.wD hw40
 have sA:=w.szA; have sB:=w.szB; have sD:=w.szD
 refine o0p x y V _ ((k08 hy hw40).mono λv V1 l1 hv=>⟨_,hv,λhc => ?_,λhc => ?_⟩)
 . have hc:w=Cq.zero:=by simpa using hc
   exact⟨_,_,rfl,λ_=>⟨rfl,J01.zero V1⟩,λh=>absurd hc h⟩
 have hc:w≠Cq.zero:=by simpa using hc
 replace hx:=hx.le l1; replace hy:=hy.le l1
 have m1:=c07 wA wA; have m2:=c07 wB wB
 refine(s05 hy.re hy.re (by omega) (by omega)).mono λv V2 l2 ⟨r2,hv,h2⟩=>⟨r2,hv,?_⟩
 replace hx:=hx.le l2; replace hy:=hy.le l2
 refine(s05 hy.im hy.im (by omega) (by omega)).mono λv V3 l3 ⟨r3,hv,h3⟩=>⟨r3,hv,?_⟩
 replace hx:=hx.le l3; replace hy:=hy.le l3; replace h2:=h2.le l3
 refine(b06 h2 h3 (by omega) (by omega)).mono λv V4 l4 ⟨r4,hv,h4⟩=>⟨r4,hv,?_⟩
 replace hx:=hx.le l4; replace hy:=hy.le l4
 refine(S03 hy.im).mono λv V5 l5 ⟨r5,hv,h5⟩=>⟨r5,hv,λb1 V6 l6 _ hb1 => ?_⟩
 replace hx:=hx.le (View.le_trans l5 l6); replace hy:=hy.le (View.le_trans l5 l6); replace h4:=h4.le (View.le_trans l5 l6); replace h5:=h5.le l6
 refine(m06 hy.re h5 (H0p hb1) (D0f w.A w.B) (by omega) (by rw[Int.natAbs_neg]; omega) I0v).mono λv V7 l7 ⟨r6,hv,h6⟩=>⟨r6,hv,?_⟩
 replace hx:=hx.le l7; replace hy:=hy.le l7; replace h4:=h4.le l7
 have cs:(⟨(w.A:Rat),-(w.B:Rat)⟩:Cq).sz<=2^36+1:=(D0f w.A w.B).sz (by omega) (by rw[Int.natAbs_neg]; omega) (by rw[Q0q]; omega)
 refine(n03 hx h6 (by omega) (by omega)).mono λv V8 l8 ⟨r7,hv,h7⟩=>⟨r7,hv,?_⟩
 replace hy:=hy.le l8; replace h4:=h4.le l8
 have ts:=p03 z ⟨(w.A:Rat),-(w.B:Rat)⟩
 have ts40:(z*⟨(w.A:Rat),-(w.B:Rat)⟩).sz<=2^40:=by omega
 have tA:=Cq.wA ts40; have tB:=Cq.wB ts40; have tD:=Cq.wD ts40
 refine(T02 hy).mono λv V9 l9 ⟨r8,hv,h8⟩=>⟨r8,hv,?_⟩
 replace hy:=hy.le l9; replace h4:=h4.le l9; replace h7:=h7.le l9
 refine(y02 h7.re h8 (by omega) (by omega)).mono λv V10 l10 ⟨r9,hv,h9⟩=>⟨r9,hv,?_⟩
 replace hy:=hy.le l10; replace h4:=h4.le l10; replace h7:=h7.le l10
 refine(T02 hy).mono λv V11 l11 ⟨r10,hv,h10⟩=>⟨r10,hv,?_⟩
 replace h4:=h4.le l11; replace h7:=h7.le l11; replace h9:=h9.le l11
 refine(y02 h7.im h10 (by omega) (by omega)).mono λv V12 l12 ⟨r11,hv,h11⟩=>⟨r11,hv,?_⟩
 replace h4:=h4.le l12; replace h7:=h7.le l12; replace h9:=h9.le l12
 refine(T02 h7).mono λv V13 l13 ⟨r12,hv,h12⟩=>⟨r12,hv,?_⟩
 replace h4:=h4.le l13; replace h9:=h9.le l13; replace h11:=h11.le l13
 have n1:=o0h m1 m2
 refine(E08 h12 h4.2 (by omega) (by omega)).mono λv V14 l14 ⟨r13,hv,h13⟩=>⟨r13,hv,?_⟩
 replace h9:=h9.le l14; replace h11:=h11.le l14
 have p1:=A0e (z*⟨(w.A:Rat),-(w.B:Rat)⟩).D (w.A*w.A+w.B*w.B).natAbs
 have q1:=c07 tA (b:=(w.D:Int)) (by rw[Int.natAbs_natCast]; exact wD)
 have q2:=c07 tB (b:=(w.D:Int)) (by rw[Int.natAbs_natCast]; exact wD)
 have hsq:(0:Int)<=w.A*w.A+w.B*w.B:=Int.add_nonneg (by rw[<-Int.natAbs_mul_self]; exact Int.natCast_nonneg _) (by rw[<-Int.natAbs_mul_self]; exact Int.natCast_nonneg _)
 refine(m06 h9 h11 h13 (Rep.div w.canon.rep (z*⟨(w.A:Rat),-(w.B:Rat)⟩).canon.rep (Int.natAbs_of_nonneg hsq) ?_) (by omega) (by omega) (by omega)).mono λv V15 _ ⟨r,hv,hr⟩=>⟨r,hv,r,_,rfl,λh=>absurd h hc,λ_=>⟨rfl,hr⟩⟩
 intro h0
 have e0:w.A*w.A+w.B*w.B=0:=Int.natAbs_eq_zero.1 h0
 have a0:w.A=0:=by
  by_cases h:w.A=0
  . exact h
  . have:0<w.A*w.A:=by
      have:0<w.A.natAbs*w.A.natAbs:=Nat.mul_pos (by omega) (by omega)
      rw[<-Int.natAbs_mul_self]; exact_mod_cast this
    have:(0:Int)<=w.B*w.B:=by rw[<-Int.natAbs_mul_self]; exact Int.natCast_nonneg _
    omega
 have b0:w.B=0:=by
  rw[a0]at e0
  have:w.B*w.B=0:=by omega
  rcases Int.mul_eq_zero.1 this with h|h<;>exact h
 exact hc (Cq.ext' (L0t.1 a0) (B_zero.1 b0))
theorem s0h{z w:Cq}{S:Nat}(hz:z.sz<=S)(hw:w.sz<=S):(z.div w).sz<=4*S+8:=by
 have sA:=w.szA; have sB:=w.szB; have sD:=w.szD
 have cs:(⟨(w.A:Rat),-(w.B:Rat)⟩:Cq).sz<=S+1:=(D0f w.A w.B).sz (by omega) (by rw[Int.natAbs_neg]; omega) (by rw[Q0q]; omega)
 have ts:=p03 z ⟨(w.A:Rat),-(w.B:Rat)⟩
 have tA:=(z*⟨(w.A:Rat),-(w.B:Rat)⟩:Cq).szA; have tB:=(z*⟨(w.A:Rat),-(w.B:Rat)⟩:Cq).szB; have tD:=(z*⟨(w.A:Rat),-(w.B:Rat)⟩:Cq).szD
 have hsq:(0:Int)<=w.A*w.A+w.B*w.B:=Int.add_nonneg (by rw[<-Int.natAbs_mul_self]; exact Int.natCast_nonneg _) (by rw[<-Int.natAbs_mul_self]; exact Int.natCast_nonneg _)
 by_cases h0:(w.A*w.A+w.B*w.B).natAbs=0
 . have:z.div w=Cq.zero:=by
     have hr:=w.canon.rep
     have e0:w.A*w.A+w.B*w.B=0:=Int.natAbs_eq_zero.1 h0
     have hn:w.norm=0:=by
      unfold Cq.norm
      rw[hr.re,hr.im]
      have:(w.A:Rat)*w.A+w.B*w.B=0:=by exact_mod_cast e0
      have hD:=a06 hr.pos
      grind
     refine Cq.ext' ?_ ?_
     . show _ / w.norm=0; rw[hn]; simp[Rat.div_def]
     . show _ / w.norm=0; rw[hn]; simp[Rat.div_def]
   rw[this]; have:=D09; omega
 . refine(Rep.div w.canon.rep (z*⟨(w.A:Rat),-(w.B:Rat)⟩).canon.rep (Int.natAbs_of_nonneg hsq) h0).sz ?_ ?_ ?_
   . have:=Y08 (z*⟨(w.A:Rat),-(w.B:Rat)⟩).A (w.D:Int); rw[Int.natAbs_natCast]at this; omega
   . have:=Y08 (z*⟨(w.A:Rat),-(w.B:Rat)⟩).B (w.D:Int); rw[Int.natAbs_natCast]at this; omega
   . have h1:=A0n (z*⟨(w.A:Rat),-(w.B:Rat)⟩).D (w.A*w.A+w.B*w.B).natAbs
     have h2:=d0h (a:=w.A*w.A) (b:=w.B*w.B) (k:=2*S) (Nat.le_trans (Y08 _ _) (by omega)) (Nat.le_trans (Y08 _ _) (by omega))
     omega
def okN(z:Cq):Prop:=z.sz<=2^36
def atN(V:View)(n:NumV)(z:Cq):Prop:=J01 V n z
theorem atN.le{V V':View}(h:V.le V'){n:NumV}{z:Cq}(k:atN V n z):atN V' n z:=J01.le h k
theorem elN{V:View}{x:List Value}{z:Cq}(h:numC V x z):∃n:NumV,x=n.val.cells.toList/\atN V n z:=h
theorem W0s{V:View}{n:NumV}{z:Cq}(h:atN V n z):numC V n.val.cells.toList z:=⟨n,rfl,h⟩
theorem lenN(n:NumV):n.val.cells.toList.length=5:=rfl
theorem oneN{V:View}{x:List Value}{z:Cq}(h:numC V x z):∀v∈x,Value.oneCell' v=true:=by
 obtain⟨n,e,_⟩:=h
 subst e
 intro v hv
 rw[e0h]at hv
 simp only[List.mem_cons,List.not_mem_nil,or_false]at hv
 rcases hv with rfl|rfl|rfl|rfl|rfl<;>rfl
theorem l0w(V:View):numC V [Value.bool false,Value.slice none 0 0,Value.bool false,Value.slice none 0 0,Value.slice none 0 0] Cq.zero:=⟨_,rfl,J01.zero V⟩
theorem J0v{V:View}{n:NumV}{z:Cq}(h:atN V n z)(hz:okN z):a00 Tryz.prog N0g #[n.val] V λv _=>v = .bool (numO.clr z):=k08 h (by unfold okN at hz; omega)
theorem divN{V:View}{n k:NumV}{z w:Cq}(h:atN V n z)(h':atN V k w)(hz:okN z)(hw:okN w)(hc:numO.clr w=true) :
 a00 Tryz.prog P0k #[n.val,k.val] V λv V'=>∃r:NumV,v = .tuple #[r.val,.int .i64 0]/\atN V' r (numO.div z w):=by
 refine(Q0c h h' hz hw).mono λv V' _ ⟨r,e,hv,_,h2⟩ => ?_
 obtain⟨g1,g2⟩:=h2 (X0j.1 hc)
 subst g1
 exact⟨r,hv,g2⟩
theorem z0r{x y u:Cq}(hx:okN x)(hy:okN y)(hu:okN u):(Cq.div x y).sz<=4*2^36+8/\(Cq.div x y*u).sz<=5*2^36+9:=by
 have h1:=s0h hx hy
 have h2:=p03 (Cq.div x y) u
 unfold okN at hu
 omega
theorem m0w{V:View}{n k:NumV}{x y u:Cq}(h:atN V n (numO.div x y))(h':atN V k u)(hx:okN x)(hy:okN y)(hu:okN u) :
 a00 Tryz.prog P0g #[n.val,k.val] V λv V'=>∃r:NumV,v=r.val/\atN V' r (numO.mul (numO.div x y) u):=by
 have hs:=z0r hx hy hu
 exact n03 (z:=Cq.div x y) (w:=u) h h' (by omega) (by unfold okN at hu; omega)
theorem n0w{V:View}{n k:NumV}{z x y u:Cq}(h:atN V n z)(h':atN V k (numO.mul (numO.div x y) u))(hz:okN z)(hx:okN x)(hy:okN y)(hu:okN u) :
 a00 Tryz.prog O0g #[n.val,k.val] V λv V'=>∃r:NumV,v=r.val/\atN V' r (numO.sub z (numO.mul (numO.div x y) u)):=by
 have hs:=z0r hx hy hu
 exact w07 (z:=z) (w:=Cq.div x y*u) h h' (by unfold okN at hz; omega) (by omega)
theorem mulN{V:View}{n k:NumV}{x y:Cq}(h:atN V n x)(h':atN V k y)(hx:okN x)(hy:okN y) :
 a00 Tryz.prog P0g #[n.val,k.val] V λv V'=>∃r:NumV,v=r.val/\atN V' r (numO.mul x y) :=
 n03 (z:=x) (w:=y) h h' (by unfold okN at hx; omega) (by unfold okN at hy; omega)
theorem subN{V:View}{n k:NumV}{x y z:Cq}(h:atN V n x)(h':atN V k (numO.mul y z))(hx:okN x)(hy:okN y)(hz:okN z) :
 a00 Tryz.prog O0g #[n.val,k.val] V λv V'=>∃r:NumV,v=r.val/\atN V' r (numO.sub x (numO.mul y z)):=by
 have:=p03 y z
 unfold okN at hx hy hz
 exact w07 (z:=x) (w:=y*z) h h' (by omega) (by omega)
theorem o0w{V:View}{o:List Value}{row:List Bool}(h:M01 1 boolC V o row):∀v∈o,Value.oneCell' v=true:=by
 induction row generalizing o with
 | nil=>rw[show o=[]from h]; simp
 | cons z zs ih =>
   obtain⟨x,o',e,hx,hp,ht⟩:=h
   subst e
   intro v hv
   rw[List.mem_append]at hv
   rcases hv with hv|hv
   . exact oneL hp v hv
   . exact ih ht v hv
theorem t0h{m V:View}{s:Sl}{row:List Bool}{o:List Value}(hC:M01 1 boolC V o row)(ho:has2 m V s.a o)(hl:s.len=row.length)(ha:s.a=none->row=[])(hb:row.length<=2^30) :
 o02 Tryz.prog F06 #[s.v] m V λv m' V'=>∃(r:Sl) (b:Nat),v=r.v/\RowR 1 boolC m' V' r b row/\(row≠[]->m b=none)/\(∀i,i≠b\/row=[]->m' i=m i):=by
 refine m09 m s V _ ⟨trivial,λh => ?_,λh b1 V1 l1 hf hb1 => ?_⟩
 . have e:=ha (by simpa using h)
   exact⟨⟨none,0,0⟩,0,rfl,⟨by rw[e]; rfl,Nat.le_refl _,λ_=>rfl,λh=>absurd e h⟩,λh=>absurd e h,λ_ _=>rfl⟩
 . have hol:=hC.length
   refine⟨[],o,⟨Nat.le_refl _,λh=>by simp at h⟩,.inl (by intro j v hj; simp at hj),by simp,o0c l1 ho,by rw[hol,hl],o0w hC,by unfold maxLen; omega,by omega,λh1 h2=>by omega,λa1 c1 m1 ha1 => ?_⟩
   have hC1:M01 1 boolC V1 o row:=hC.imp (boolC.le l1)
   obtain⟨b,hr,hb2,hm,hm2⟩:=i0j hC1 rfl hl ha1
   exact⟨_,b,rfl,hr,hb2,λi hi=>by
    rcases hi with hi|hi
    . exact hm i hi
    . rw[hm2 hi]⟩
theorem U0m{V:View}{s:Sl}{row:List Bool}(h:A00 1 boolC V s row)(hb:row.length<=2^30) :
 a00 Tryz.prog F06 #[s.v] V λv V'=>∃r:Sl,v=r.v/\A00 1 boolC V' r row:=by
 obtain⟨hl,hc,hn,o,ho,hC⟩:=h
 refine o02.known (t0h (m:=λ_=>none) hC (.inr ho) hl (λe => ?_) hb) λv m V' V2 l e ap ⟨r,b,hv,hr,_⟩=>⟨r,hv,?_⟩
 . rcases Classical.em (row=[])with g|g
   . exact g
   . have:=hn g; rw[e]at this; simp at this
 . subst e
   exact hr.known (boolC.le (z0b ap)) (λb cs g=>y07 g)
theorem w0f{V:View}{p:Sl}{rows:List (List Bool)}(h:K00 1 boolC V p rows) :
 a00 Tryz.prog M0a #[p.v] V λv V'=>∃g:k00,v = .tuple #[g.val,.int .i64 (c0i rows)]/\K00 1 boolC V' g.rows (g0h rows):=by
 have hl:p.len=rows.length:=h.len
 have bad:∀V':View,P06 rows=false->∃g:k00,Value.tuple #[(k00.mk (Sl.mk none 0 0)).val,.int .i64 4] = .tuple #[g.val,.int .i64 (c0i rows)]/\K00 1 boolC V' g.rows (g0h rows):=λV' e=>by
  refine⟨⟨⟨none,0,0⟩⟩,?_,?_⟩
  . unfold c0i; rw[e]; rfl
  . unfold g0h; rw[e]; exact A00.nil
 refine p0a p V _ (λ_ _ _=>1<=rows.length/\rows.length<=64)
  (λ_ x V'=>∃(t:Nat) (l:List Value),x.t18=t/\t<=rows.length/\s03 1 x.o4_0l x.o4_0c x.o45 l/\x.o4_0l=t/\M01 1 (λV x row=>∃s:Sl,x=[s.v]/\A00 1 boolC V s row) V' l (rows.take t)/\∀row∈rows.take t,e09 (K01 rows) row=true)
  (λ_ x _=>rows.length-x.t18.toNat) ?_
 rw[hl]
 refine⟨⟨λc=>bad V ?_,λc=>⟨λc'=>bad V ?_,λc' => ?_⟩⟩,?_⟩
 . unfold P06
   have c:=of_decide_eq_true c
   have:decide (1<=rows.length)=false:=decide_eq_false (by omega)
   rw[this]; rfl
 . unfold P06
   have c':=of_decide_eq_true c'
   have:decide (rows.length<=64)=false:=decide_eq_false (by omega)
   rw[this,Bool.false_and,Bool.and_false]
 . have c:=of_decide_eq_false c
   have c':=of_decide_eq_false c'
   omega
 rintro⟨o2⟩ V1 l1 ⟨n1,n2⟩
 refine⟨⟨0,[],rfl,by omega,s03.nil,rfl,rfl,by simp⟩,?_⟩
 rintro⟨t18,o2',k,c,o⟩ V2 l2 ⟨t,l,et,ht,hL,ek,hC,hall⟩
 dsimp only at et hL ek hC ⊢
 subst et; subst ek
 have L2:=View.le_trans l1 l2
 refine⟨λhlt => ?_,λhge => ?_⟩
 . have hk:k<rows.length:=by simp at hlt; omega
   have ek:rows[k]?=some rows[k]:=List.getElem?_eq_getElem hk
   have hmem:=List.getElem_mem hk
   obtain⟨g,s,h1,h2⟩:=(K00.le boolC.le L2 h).row (t:=(k:Int)) (by omega) (row:=rows[k]) (by rw[Int.toNat_natCast]; exact ek)
   have hs:s.len=rows[k].length:=h2.len
   rw[hl]at g
   have tk:rows.take (k+1)=rows.take k++[rows[k]]:=by rw[List.take_add_one,ek]; rfl
   generalize rows[k]=row at *
   have no:e09 (K01 rows) row=false->P06 rows=false:=λe=>by
    unfold P06
    rw[List.all_eq_false.2 ⟨row,hmem,by rw[e]; simp⟩,Bool.and_false,Bool.and_false]
   refine⟨g,s,h1,λc1=>bad V2 (no ?_),λc1=>⟨λc2=>bad V2 (no ?_),λc2 => ?_⟩⟩
   . unfold e09
     have c1:=of_decide_eq_true c1
     have:decide (1<=row.length)=false:=decide_eq_false (by omega)
     rw[this]; rfl
   . unfold e09
     have c2:=of_decide_eq_true c2
     have:decide (row.length<=64)=false:=decide_eq_false (by omega)
     rw[this,Bool.false_and,Bool.and_false]
   obtain⟨row0,e0,e1⟩:=W0b (rows:=rows) (by omega)
   obtain⟨g0,s0,h3,h4⟩:=(K00.le boolC.le L2 h).row (t:=(0:Int)) (by omega) (row:=row0) e0
   have hs0:s0.len=K01 rows:=by rw[<-e1]; exact h4.len
   rw[hl]at g0
   refine⟨g0,s0,h3,λc3=>bad V2 (no ?_),λc3 => ?_⟩
   . unfold e09
     have:decide (row.length=K01 rows)=false:=decide_eq_false (λe=>by rw[hs,hs0,e]at c3; simp at c3)
     rw[this,Bool.and_false,Bool.and_false]
   have ok:e09 (K01 rows) row=true:=by
    have c1:=of_decide_eq_false c1
    have c2:=of_decide_eq_false c2
    have c3:row.length=K01 rows:=by rw[hs,hs0]at c3; simp at c3; omega
    unfold e09
    rw[decide_eq_true (show 1<=row.length by omega),decide_eq_true (show row.length<=64 by omega),decide_eq_true c3]; rfl
   refine(U0m h2 (by have:=of_decide_eq_false c2; omega)).mono λv V3 l3 ⟨r1,hv,hr⟩=>⟨r1,hv,λb1 V4 l4 _ hb1 => ?_⟩
   have hnew:V4.has (some (Addr.mk b1 0 none)) [r1.v]:=F04 (cs:=[r1.v]) (j:=0) hb1 (λi v hv=>by rw[Nat.zero_add]; exact hv) rfl
   refine⟨l,_,hL,hnew,rfl,by intro v hv; simp at hv; subst hv; rfl,by unfold maxLen; omega,by omega,λc1 l3' hl3 => ?_⟩
   rw[i64w (by omega) (by omega)]
   have L24:=View.le_trans l3 l4
   refine⟨⟨k+1,_,by omega,by omega,hl3,rfl,?_,λrow' hr' => ?_⟩,by omega⟩
   . rw[tk]
     exact(hC.imp λ_ _ ⟨s,e,hs⟩=>⟨s,e,A00.le (boolC.le L24) L24 hs⟩).append (M01.one rfl ⟨_,rfl,A00.le (boolC.le l4) l4 hr⟩)
   . rw[tk]at hr'
     rcases List.mem_append.1 hr' with hr'|hr'
     . exact hall row' hr'
     . rw[show row'=row by simpa using hr']; exact ok
 . have e:k=rows.length:=by simp at hge; omega
   subst e
   rw[List.take_length]at hC hall
   intro b2 V5 l5 hb2
   have ok:P06 rows=true:=by
    unfold P06
    simp only[Bool.and_eq_true,decide_eq_true_eq,List.all_eq_true]
    exact⟨n1,n2,hall⟩
   refine⟨⟨⟨lstA b2 c,rows.length,c⟩⟩,by unfold c0i; rw[ok]; rfl,?_⟩
   unfold g0h; rw[if_pos ok]
   exact o06 hL hb2 (hC.imp λ_ _ ⟨s,e,hs⟩=>⟨s,e,A00.le (boolC.le l5) l5 hs⟩) rfl
theorem I0d{V:View}{g:k00}{rows:List (List Bool)}(h:K00 1 boolC V g.rows rows) :
 a00 Tryz.prog P08 #[g.val] V λv _=>v = .tuple #[.int .i64 (rows.length:Int),.int .i64 (K01 rows:Int)]:=by
 have hl:g.rows.len=rows.length:=h.len
 refine d08 g V _ ⟨λc => ?_,λc => ?_⟩
 . have e:rows=[]:=List.length_eq_zero_iff.1 (by simp at c; omega)
   subst e; rfl
 . obtain⟨row0,e0,e1⟩:=W0b (rows:=rows) (by simp at c; omega)
   obtain⟨g0,s0,h3,h4⟩:=h.row (t:=(0:Int)) (by omega) (row:=row0) e0
   refine⟨g0,s0,h3,?_⟩
   rw[h4.len,e1,hl]
theorem i0g{V:View}{s:Sl}{p:Option Addr}{k:Nat}(hp:V.load p=some (.int .i64 (k:Int))) :
 a00 Tryz.prog W05 #[s.v,.pointer p] V λv _=>v = .bool (decide (s.len≠k)):=by
 refine Q0a s p V _ ⟨_,hp,?_⟩
 congr 1
 by_cases e:s.len=k
 . subst e; simp
 . simp[e]; omega
theorem O0e{V:View}{p:Sl}{rows:List (List Cq)}(h:K00 5 numC V p rows)(hn:rows.length<=2^40)(q:Fn1){k:Nat}(hp:V.load q.p0=some (.int .i64 (k:Int))) :
 a00 Tryz.prog y06 #[p.v,q.val W05] V λv _=>∃r:Int,v = .int .i64 r/\(0<=r↔∃row,row∈rows/\row.length≠k):=by
 have hl:p.len=rows.length:=h.len
 refine k03 p q V _ (λ_ x _=>∃t:Nat,x.t8=t/\t<=rows.length/\∀row,row∈rows.take t->row.length=k) (λ_ x _=>rows.length-x.t8.toNat) ⟨⟨0,rfl,by omega,by simp⟩,?_⟩
 rintro⟨t⟩ V1 l1 ⟨t',ht,htn,hi⟩
 dsimp only at ht ⊢
 subst ht
 refine⟨λhlt => ?_,λhge => ?_⟩
 . simp only[decide_eq_true_eq]at hlt
   have hk:t'<rows.length:=by omega
   obtain⟨g1,s,g2,g3⟩:=(h.le numC.le l1).row (t:=(t':Int)) (by omega) (row:=rows[t']) (by simp)
   refine⟨g1,s,g2,(i0g (o03 l1 hp)).mono λv V2 l2 hv=>⟨_,hv,λhr=>⟨_,rfl,?_⟩,λhr => ?_⟩⟩
   . have hne:=of_decide_eq_true hr
     rw[g3.len]at hne
     exact⟨λ_=>⟨rows[t'],List.getElem_mem hk,hne⟩,λ_=>by omega⟩
   . have he:s.len=k:=by simpa using hr
     rw[g3.len]at he
     rw[i64w (by omega) (by omega)]
     refine⟨⟨t'+1,by omega,by omega,λrow hrow => ?_⟩,by omega⟩
     rw[List.take_add_one,List.getElem?_eq_getElem hk]at hrow
     simp only[Option.toList_some,List.mem_append,List.mem_singleton]at hrow
     rcases hrow with hrow|hrow
     . exact hi row hrow
     . subst hrow; exact he
 . simp only[decide_eq_false_iff_not]at hge
   have e:t'=rows.length:=by omega
   subst e
   rw[List.take_length]at hi
   exact⟨-1,rfl,λh=>absurd h (by omega),λ⟨row,h1,h2⟩=>absurd (hi row h1) h2⟩
theorem S0c{V:View}{p:Sl}{rows:List (List Cq)}(h:K00 5 numC V p rows)(hn:rows.length<=2^40)(q:Fn1){k:Nat}(hp:V.load q.p0=some (.int .i64 (k:Int))) :
 a00 Tryz.prog d06 #[p.v,q.val W05] V λv _=>v = .bool (rows.any λrow=>decide (row.length≠k)):=by
 refine W02 p q V _ ((O0e h hn q hp).mono λv V1 l1 ⟨r,hv,hr⟩=>⟨r,hv,?_⟩)
 congr 1
 rw[Bool.eq_iff_iff]
 simp only[ge_iff_le,decide_eq_true_eq,List.any_eq_true]
 exact hr
def Z08(rows:List (List Cq)):Nat:=(rows.headD []).length
def u0h(rows:List (List Cq)):Bool:=rows.isEmpty||(decide (rows.length<=32)&&decide (Z08 rows<=32) && !(rows.any λrow=>decide (row.length≠Z08 rows)))
theorem f09{V:View}{p:Sl}{rows:List (List Cq)}(h:K00 5 numC V p rows)(hn:rows.length<=2^40) :
 a00 Tryz.prog i0c #[p.v] V λv _=>v = .tuple #[.int .i64 (Z08 rows:Int),.bool (u0h rows)]:=by
 have hl:p.len=rows.length:=h.len
 refine L0b p V _ ⟨λh0 => ?_,λh0 => ?_⟩
 . have e:rows=[]:=List.length_eq_zero_iff.1 (by simp at h0; omega)
   subst e; rfl
 . have hne:0<rows.length:=by simp at h0; omega
   obtain⟨row,rest,e⟩:∃row rest,rows=row::rest:=by
    cases rows with
    | nil=>simp at hne
    | cons a l=>exact⟨a,l,rfl⟩
   obtain⟨g1,s,g2,g3⟩:=h.row (t:=(0:Int)) (by omega) (row:=row) (by subst e; rfl)
   refine⟨g1,s,g2,λb1 V1 l1 hb1 => ?_⟩
   have hld:V1.load (some (Addr.mk b1 0 none))=some (.int .i64 (s.len:Int)):=by
    have:=t07 (j:=0) hb1
    simpa [Addr.add]using this
   have hs:s.len=Z08 rows:=by subst e; exact g3.len
   rw[hs]at hld
   have hE:rows.isEmpty=false:=by subst e; rfl
   refine⟨_,hld,λh1=>⟨_,hld,λh2 => ?_,λh2 => ?_⟩,λh1 => ?_⟩
   . simp only[decide_eq_true_eq]at h1 h2
     refine(S0c (h.le numC.le l1) hn ⟨some (Addr.mk b1 0 none)⟩ hld).mono λv V2 l2 hv=>⟨_,hv,?_⟩
     have e1:decide (rows.length<=32)=true:=by simp; omega
     have e2:decide (Z08 rows<=32)=true:=by simp; omega
     simp only[u0h,hE,e1,e2,Bool.false_or,Bool.true_and]
   . simp only[decide_eq_false_iff_not]at h2
     have e2:decide (Z08 rows<=32)=false:=by simp; omega
     simp only[u0h,hE,e2,Bool.false_or,Bool.and_false,Bool.false_and]
   . simp only[decide_eq_false_iff_not]at h1
     have e1:decide (rows.length<=32)=false:=by simp; omega
     simp only[u0h,hE,e1,Bool.false_or,Bool.false_and]
theorem T0c{V:View}{p:Sl}{rows:List (List Cq)}(h:K00 5 numC V p rows)(hn:rows.length<=2^40) :
 a00 Tryz.prog I07 #[p.v] V λv _=>v = .bool (u0h rows&&decide (Z08 rows=rows.length)):=by
 have hl:p.len=rows.length:=h.len
 refine m0b p V _ ((f09 h hn).mono λv V1 l1 hv=>⟨_,_,hv,λh1 => ?_,λh1 => ?_⟩)
 . rw[h1,Bool.true_and,hl]
   congr 1
   by_cases e:Z08 rows=rows.length
   . simp[e]
   . simp[e]; omega
 . rw[h1,Bool.false_and]
theorem q0w{V:View}{o:List Value}{row:List Cq}(h:M01 5 numC V o row):∀v∈o,Value.oneCell' v=true:=by
 induction row generalizing o with
 | nil=>rw[show o=[]from h]; simp
 | cons z zs ih =>
   obtain⟨x,o',e,hx,hp,ht⟩:=h
   subst e
   intro v hv
   rw[List.mem_append]at hv
   rcases hv with hv|hv
   . exact oneN hp v hv
   . exact ih ht v hv
theorem S07{m V:View}{s:Sl}{row:List Cq}{o:List Value}(hC:M01 5 numC V o row)(ho:has2 m V s.a o)(hl:s.len=row.length)(ha:s.a=none->row=[])(hb:row.length<=2^30) :
 o02 Tryz.prog w05 #[s.v] m V λv m' V'=>∃(r:Sl) (b:Nat),v=r.v/\RowR 5 numC m' V' r b row/\(row≠[]->m b=none)/\(∀i,i≠b\/row=[]->m' i=m i):=by
 refine A07 m s V _ ⟨trivial,λh => ?_,λh b1 V1 l1 hf hb1 => ?_⟩
 . have e:=ha (by simpa using h)
   exact⟨⟨none,0,0⟩,0,rfl,⟨by rw[e]; rfl,Nat.le_refl _,λ_=>rfl,λh=>absurd e h⟩,λh=>absurd e h,λ_ _=>rfl⟩
 . have hol:=hC.length
   refine⟨[],o,⟨Nat.le_refl _,λh=>by simp at h⟩,.inl (by intro j v hj; simp at hj),by simp,o0c l1 ho,by rw[hol,hl],q0w hC,by unfold maxLen; omega,by omega,λh1 h2=>by omega,λa1 c1 m1 ha1 => ?_⟩
   have hC1:M01 5 numC V1 o row:=hC.imp (numC.le l1)
   obtain⟨b,hr,hb2,hm,hm2⟩:=i0j hC1 rfl hl ha1
   exact⟨_,b,rfl,hr,hb2,λi hi=>by
    rcases hi with hi|hi
    . exact hm i hi
    . rw[hm2 hi]⟩
def g09(A:Nat->Nat->Cq)(w:Nat)(C:Nat->Nat->Cq):Nat->Nat->Cq:=λi k=>if k<w then A i k else C (k-w) i
theorem Z0d{V:View}{p q:Sl}{n w u:Nat}{A C:Nat->Nat->Cq}(h:K00 5 numC V p (matL n w A))(hq:K00 5 numC V q (matL u n C))(hn:n<=2^20)(hw:w<=2^20)(hu:u<=2^20) :
 o02 Tryz.prog x0c #[p.v,q.v] (λ_=>none:View) V λv m' V'=>∃r:Sl,v=r.v/\MatR 5 numC m' V' r n (w+u) (g09 A w C):=by
 have hl:p.len=n:=by have:=h.len; rw[x00]at this; exact this
 have hql:q.len=u:=by have:=hq.len; rw[x00]at this; exact this
 refine k0c (λ_=>none) p q V _ (λ_ x V'=>∃t:Nat,x.t15=t/\t<=n/\x.o12.length=n/\w03 5 numC x.o0 V' x.o12 t (λi=>rowL (w+u) (g09 A w C i))) (λ_ x _=>n-x.t15.toNat)
  (λc x V'=>∃t k:Nat,c.t15=t/\t<n/\x.t27=k/\k<=u/\x.o12.length=n/\w03 5 numC x.o0 V' x.o12 (t+1) (λi=>if i=t then rowL (w+k) (g09 A w C i)else rowL (w+u) (g09 A w C i))) (λ_ x _=>u-x.t27.toNat) ?_
 rw[hl]
 refine⟨⟨by omega,by omega,by omega,by omega⟩,⟨0,rfl,by omega,by simp,g0n _ _ _ _⟩,?_⟩
 rintro⟨t15,o0,o12⟩ V1 l1 ⟨t,ht,htn,hlen,hR⟩
 dsimp only at ht hlen hR ⊢
 subst ht
 refine⟨λhlt => ?_,λhge => ?_⟩
 . simp only[decide_eq_true_eq]at hlt
   have hk:t<n:=by omega
   obtain⟨g1,s,g2,g3⟩:=(h.le numC.le l1).row (t:=(t:Int)) (by omega) (row:=rowL w (A t)) (by rw[Int.toNat_natCast]; exact U04 hk A)
   rw[hl]at g1
   obtain⟨o,ho,hC⟩:=g3.cells
   refine⟨g1,s,.inr g2,?_⟩
   refine(S07 hC (.inr ho) g3.len (λe => ?_) (by rw[m00]; omega)).mono λv m1 V2 l2 _ ⟨r,b,hv,hr,hb,hm⟩=>⟨r,hv,⟨by omega,by omega⟩,by rw[hlen,Int.toNat_natCast]; omega,?_,?_⟩
   . by_cases e2:rowL w (A t)=[]
     . exact e2
     . have:=g3.some e2; rw[e]at this; simp at this
   . refine⟨t,0,rfl,hk,rfl,by omega,by simp[hlen],?_⟩
     have:=(hR.le numC.le l2).push (by omega) hr hb hm
     have e1:(0+Int.toNat (t:Int)*1)=t:=by omega
     rw[e1]
     refine this.congr λi hi => ?_
     by_cases e:i=t
     . subst e
       simp only[if_true,Nat.add_zero]
       exact m03 λk hk=>by simp[g09,hk]
     . simp[e]
   . rintro⟨t27,o0',o12'⟩ V3 l3 ⟨t',k,ht',htn',hk27,hku,hlen',hR'⟩
     dsimp only at ht' hk27 hlen' hR' ⊢
     have:t'=t:=by omega
     subst this
     subst hk27
     rw[hql]
     refine⟨λhlt2 => ?_,λhge2 => ?_⟩
     . simp only[decide_eq_true_eq]at hlt2
       have hku2:k<u:=by omega
       have lq:=View.le_trans l1 (View.le_trans l2 l3)
       obtain⟨q1,s2,q2,q3⟩:=(hq.le numC.le lq).row (t:=(k:Int)) (by omega) (row:=rowL n (C k)) (by rw[Int.toNat_natCast]; exact U04 hku2 C)
       rw[hql]at q1
       obtain⟨s3,e3,r1,r2,r3,⟨o3,r4,r5,r6⟩,r7⟩:=hR'.row (i:=t') (by omega)
       obtain⟨c1,x,hx,hxl,hh,hs⟩:=A00.get q3 (t:=(t':Int)) (by omega) (z:=C k t') (by rw[Int.toNat_natCast]; exact M03 hk _)
       obtain⟨y,ey,hy⟩:=elN hx
       subst ey
       simp only[if_true]at r1 r6
       rw[m00]at r1
       refine⟨q1,s2,.inr q2,⟨by omega,by omega⟩,s3,by rw[Int.toNat_natCast,Nat.mul_one,Nat.zero_add]; exact e3,c1,y,.inr hh,hs,λb1 V4 l4 hf4 hb4 => ?_⟩
       have hnew:V4.has (some (Addr.mk b1 0 none)) y.val.cells.toList:=by
        refine F04 (cs:=y.val.cells.toList) (j:=0) hb4 (λi v hv=>by rw[Nat.zero_add]; exact hv) rfl
       refine⟨o3,_,⟨r2,r3⟩,o0c l4 r4,r5,.inr hnew,by rw[hxl],oneN (numC.le l4 _ _ hx),by unfold maxLen; omega,by omega,λ_ h2=>r7 1 (by omega) h2,λa1 c1 m2 ha=>⟨⟨by omega,by omega⟩,by rw[hlen',Int.toNat_natCast]; omega,?_⟩⟩
       have:=(hR'.le numC.le l4).app (i:=t') (by omega) e3 hxl (numC.le l4 _ _ hx) (o':=o3) (by simp only[if_true]; exact r6.imp (numC.le l4)) ha
       rw[i64w (by omega) (by omega)]
       refine⟨⟨t',k+1,rfl,htn',by omega,by omega,by simp[hlen'],?_⟩,by omega⟩
       have e1:(0+Int.toNat (t':Int)*1)=t':=by omega
       rw[e1]
       refine this.congr λi hi => ?_
       by_cases e:i=t'
       . subst e
         simp only[if_true]
         rw[show C k i=g09 A w C i (w+k)by unfold g09; rw[if_neg (by omega),Nat.add_sub_cancel_left],Y09]; rfl
       . simp[e]
     . simp only[decide_eq_false_iff_not]at hge2
       have e:k=u:=by omega
       subst e
       rw[i64w (by omega) (by omega)]
       refine⟨⟨t'+1,by omega,by omega,hlen',hR'.congr λi hi => ?_⟩,by omega⟩
       by_cases e:i=t'<;>simp[e]
 . simp only[decide_eq_false_iff_not]at hge
   intro b3 hb3 hb4
   have e:t=n:=by omega
   subst e
   rw[Int.toNat_natCast]
   exact⟨_,rfl,hR.mat hlen hb3⟩
theorem n0c{m V:View}{p:Sl}{n w:Nat}{A:Nat->Nat->Cq}(Q:Nat->Cq->Prop)(h:MatR 5 numC m V p n w A)(hn:n<=w)(hw:w<=2^20)
 (q1:∀c x,c<=n->Q c x->okN x) (q2:∀c x y z u,Q c x->Q c y->Q c z->Q c u->Q (c+1) (numO.sub x (numO.mul (numO.div y z) u))) (q3:∀c x,Q c x->Q (c+1) x) (hA:∀i j,i<n->j<w->Q 0 (A i j)) :
 o02 Tryz.prog c0b #[p.v] m V λv m' V'=>v = .tuple #[.int .i64 ((elim numO n w A).2.1:Nat),.int .i64 (match (elim numO n w A).2.2 with|none => -1|some c=>(c:Int))]/\MatR 5 numC m' V' p n w (elim numO n w A).1:=by
 have hl:=h.len
 refine S0a m p V _
  (λ_ x V'=>∃(c s:Nat) (B:Nat->Nat->Cq),x.t13=c/\x.t4=s/\c<=n/\s<=c/\MatR 5 numC x.o0 V' p n w B/\D08 numO n w (n-c) c B s=elim numO n w A/\∀i j,i<n->j<w->Q c (B i j))
  (λ_ x _=>n-x.t13.toNat)
  (λc x V'=>∃(k s:Nat) (B:Nat->Nat->Cq),c.t13=k/\c.t4=s/\k<n/\s<=k/\MatR 5 numC c.o0 V' p n w B/\D08 numO n w (n-k) k B s=elim numO n w A/\(∀i j,i<n->j<w->Q k (B i j))/\x.t6=(pivF numO B k n:Nat))
  (λc x V'=>∃(k s:Nat) (B:Nat->Nat->Cq) (t:Nat),c.t13=k/\c.t4=s/\k<n/\s<=k/\MatR 5 numC c.o0 V' p n w B/\D08 numO n w (n-k) k B s=elim numO n w A/\(∀i j,i<n->j<w->Q k (B i j))/\x.t6=t/\k<=t/\t<=n/\∀q,k<=q->q<t->numO.clr (B q k)=false)
  (λ_ x _=>n-x.t6.toNat)
  (λc x V'=>∃(k s:Nat) (B:Nat->Nat->Cq),c.t13=k/\x.t4=s/\k<n/\s<=k+1/\MatR 5 numC x.o0 V' p n w B/\D08 numO n w (n-(k+1)) (k+1) (colF numO w B k n) s=elim numO n w A/\(∀i j,i<n->j<w->Q k (B i j))/\numO.clr (B k k)=true)
  (λc x V'=>∃(k s:Nat) (B:Nat->Nat->Cq) (R:Nat),c.t13=k/\c.t4=s/\k<n/\s<=k+1/\x.t7=R/\k<R/\R<=n/\MatR 5 numC x.o0 V' p n w (colF numO w B k R)/\D08 numO n w (n-(k+1)) (k+1) (colF numO w B k n) s=elim numO n w A/\(∀i j,i<n->j<w->Q k (B i j))/\numO.clr (B k k)=true)
  (λ_ x _=>n-x.t7.toNat)
  (λc x V'=>∃(k s:Nat) (B:Nat->Nat->Cq) (R K:Nat),c.t13=k/\c.t4=s/\k<n/\s<=k+1/\c.t7=R/\k<R/\R<n/\x.t10=K/\k<K/\K<=w/\atN V' c.o8 (numO.div (B R k) (B k k)) /\
    MatR 5 numC x.o0 V' p n w (rowF numO (colF numO w B k R) k R (numO.div (B R k) (B k k)) K)/\D08 numO n w (n-(k+1)) (k+1) (colF numO w B k n) s=elim numO n w A/\(∀i j,i<n->j<w->Q k (B i j))/\numO.clr (B k k)=true)
  (λ_ x _=>w-x.t10.toNat) ?_
 rw[hl]
 refine⟨⟨0,0,A,rfl,rfl,by omega,by omega,h,by rw[Nat.sub_zero]; rfl,hA⟩,?_⟩
 rintro⟨t4,t13,o0⟩ V1 l1 ⟨c,s,B,e13,e4,hc,hs,hM,hE,hQ⟩
 dsimp only at e13 e4 hM ⊢
 subst e13; subst e4
 refine⟨λhlt=>⟨⟨⟨c,s,B,c,rfl,rfl,by simp at hlt; omega,hs,hM,hE,hQ,rfl,by omega,hc,λq h1 h2=>by omega⟩,?_⟩,?_⟩,λhge => ?_⟩
 ·
   rintro⟨t6⟩ V3 l3 ⟨k,s',B',t,e13,e4,hk,hs',hM',hE',hQ',e6,h1,h2,h3⟩
   dsimp only at e13 e4 e6 hM' ⊢
   obtain rfl:c=k:=by omega
   obtain rfl:s=s':=by omega
   subst e6
   refine⟨λhlt2 => ?_,λhge2 => ?_⟩
   . simp only[decide_eq_true_eq]at hlt2
     have ht:t<n:=by omega
     obtain⟨g1,sl,g2,g3,g4,g5,g6,g7,g8⟩:=hM'.row ht
     obtain⟨x,hx,hxl,hh,hsm⟩:=g7 c (by omega)
     obtain⟨y,ey,hy⟩:=elN hx
     subst ey
     refine⟨⟨by omega,by omega,g1⟩,sl,.inl (by rw[Int.toNat_natCast]; exact g2),⟨by omega,by omega,g5 (by omega)⟩,y,by rw[Int.toNat_natCast]; exact hh,by rw[Int.toNat_natCast]; exact hsm,?_⟩
     refine(J0v hy (q1 c _ (by omega) (hQ' t c ht (by omega)))).mono λv V4 l4 hv=>⟨_,hv,λhb => ?_,λhb => ?_⟩
     . rw[i64w (by omega) (by omega)]
       refine⟨⟨c,s,B',t+1,rfl,rfl,hk,hs',hM'.le numC.le l4,hE',hQ',by omega,by omega,by omega,λq hq1 hq2 => ?_⟩,by omega⟩
       by_cases e:q=t
       . subst e; simpa using hb
       . exact h3 q hq1 (by omega)
     . refine⟨c,s,B',rfl,rfl,hk,hs',hM'.le numC.le l4,hE',hQ',?_⟩
       rw[Y0q numO B' h1 h2 h3 (λ_=>by simpa using hb)]
   . simp only[decide_eq_false_iff_not]at hge2
     have e:t=n:=by omega
     refine⟨c,s,B',rfl,rfl,hk,hs',hM',hE',hQ',?_⟩
     rw[Y0q numO B' h1 h2 h3 (λh=>by omega)]
 ·
   rintro⟨t6⟩ V2 l2 ⟨k,s',B',e13,e4,hk,hs',hM',hE',hQ',e6⟩
   dsimp only at e13 e4 e6 hM' ⊢
   obtain rfl:c=k:=by omega
   obtain rfl:s=s':=by omega
   subst e6
   obtain⟨p1,p2,p3,p4⟩:=I0c numO B' (c:=c) (n:=n) (by omega)
   refine⟨λheq => ?_,λhne=>⟨⟨λhsw => ?_,λhns => ?_⟩,?_⟩⟩
   . have e:pivF numO B' c n=n:=by simp at heq; omega
     rw[<-hE',E0p numO n w hk B' s e]
     exact⟨rfl,hM'⟩
   . have hpn:pivF numO B' c n<n:=by simp at hne; omega
     have hpc:pivF numO B' c n≠c:=by simp at hsw; omega
     obtain⟨g1,sc,g2,_⟩:=hM'.row hk
     obtain⟨_,sp,k2,_⟩:=hM'.row hpn
     obtain⟨b1,c1,l1',u1,u2,u3,b2,c2,l2',u4,u5,u6,u7⟩:=hM'.swap (by omega) hk hpn g2 k2
     refine⟨⟨by omega,by omega,g1⟩,sc,.inl (by rw[Int.toNat_natCast]; exact g2),⟨by omega,by omega,g1⟩,sp,.inl (by rw[Int.toNat_natCast]; exact k2),⟨by omega,by omega,g1⟩,b1,c1,l1',by rw[Int.toNat_natCast]; exact u1,u2,u3,⟨by omega,by omega,g1⟩,b2,c2,l2',by rw[Int.toNat_natCast]; exact u4,u5,u6,?_⟩
     rw[F0n numO n w hk B' s (by omega),if_neg hpc]at hE'
     have ep:u0b B' c (pivF numO B' c n)=W0j B' c (pivF numO B' c n):=by unfold u0b; rw[if_neg hpc]
     rw[i64w (by omega) (by omega)]
     refine⟨c,s+1,W0j B' c (pivF numO B' c n),rfl,by omega,hk,by omega,u7,by rw[<-ep]; exact hE',λi j hi hj => ?_,?_⟩
     . unfold W0j
       split
       . exact hQ' _ j hpn hj
       . split
         . exact hQ' _ j hk hj
         . exact hQ' i j hi hj
     . simp only[W0j,if_true]; exact p4 hpn
   . have hpc:pivF numO B' c n=c:=by simp at hns; omega
     have hpn:pivF numO B' c n<n:=by omega
     rw[F0n numO n w hk B' s (by omega),if_pos hpc]at hE'
     have ep:u0b B' c (pivF numO B' c n)=B':=by unfold u0b; rw[if_pos hpc]
     rw[ep]at hE'
     exact⟨c,s,B',rfl,rfl,hk,by omega,hM',hE',hQ',by have:=p4 hpn; rw[hpc]at this; exact this⟩
   ·
     clear p1 p2 p3 p4 hE' hQ' hM'
     rintro⟨t4',o0'⟩ V5 l5 ⟨k,s2,B2,e13',e4',hk2,hs2,hM2,hE2,hQ2,hcl⟩
     dsimp only at e13' e4' hM2 ⊢
     obtain rfl:c=k:=by omega
     subst e4'
     refine⟨⟨c,s2,B2,c+1,rfl,rfl,hk,hs2,by rw[i64w (by omega) (by omega)]; omega,by omega,by omega,by rw[C0p]; exact hM2,hE2,hQ2,hcl⟩,?_⟩
     clear hM2 hE2 hQ2 hcl
     rintro⟨t7,o0''⟩ V6 l6 ⟨k,s3,B3,R,f13,f4,hk3,hs3,f7,hkR,hRn,hM3,hE3,hQ3,hcl3⟩
     dsimp only at f13 f4 f7 hM3 ⊢
     obtain rfl:c=k:=by omega
     obtain rfl:s2=s3:=by omega
     subst f7
     refine⟨λhlt2 => ?_,λhge2 => ?_⟩
     . simp only[decide_eq_true_eq]at hlt2
       have hR:R<n:=by omega
       obtain⟨g1,sr,g2,g3,g4,g5,g6,g7,g8⟩:=hM3.row hR
       obtain⟨_,sc,k2,k3,k4,k5,k6,k7,k8⟩:=hM3.row hk
       obtain⟨x,hx,hxl,hh,hsm⟩:=g7 c (by omega)
       obtain⟨x',hx',hxl',hh',hsm'⟩:=k7 c (by omega)
       rw[E0n]at hx
       rw[D0n]at hx'
       obtain⟨y,ey,hy⟩:=elN hx
       obtain⟨y',ey',hy'⟩:=elN hx'
       subst ey; subst ey'
       refine⟨⟨by omega,by omega,g1⟩,sr,.inl (by rw[Int.toNat_natCast]; exact g2),⟨by omega,by omega,g5 (by omega)⟩,y,by rw[Int.toNat_natCast]; exact hh,by rw[Int.toNat_natCast]; exact hsm,
        ⟨by omega,by omega,g1⟩,sc,.inl (by rw[Int.toNat_natCast]; exact k2),⟨by omega,by omega,k5 (by omega)⟩,y',by rw[Int.toNat_natCast]; exact hh',by rw[Int.toNat_natCast]; exact hsm',?_⟩
       have qR:=hQ3 R c hR (by omega)
       have qc:=hQ3 c c hk (by omega)
       refine(divN hy hy' (q1 c _ (by omega) qR) (q1 c _ (by omega) qc) hcl3).mono λv V7 l7 ⟨r2,hv,hr2⟩=>⟨r2,0,hv,⟨c,s2,B3,R,c+1,rfl,rfl,hk,hs3,rfl,hkR,hR,by rw[i64w (by omega) (by omega)]; omega,by omega,by omega,hr2,?_,hE3,hQ3,hcl3⟩,?_⟩
       . rw[D0p]; exact hM3.le numC.le l7
       . clear hM3 g1 g2 g3 g4 g5 g6 g7 g8 k2 k3 k4 k5 k6 k7 k8 hh hsm hh' hsm' hx hx' hy hy'
         rintro⟨t10,o0'''⟩ V8 l8 ⟨k,s4,B4,R',K,d13,d4,hk4,hs4,d7,hkR4,hR4,d10,hkK,hKw,hf,hM4,hE4,hQ4,hcl4⟩
         dsimp only at d13 d4 d7 d10 hf hM4 ⊢
         obtain rfl:c=k:=by omega
         obtain rfl:s2=s4:=by omega
         obtain rfl:R=R':=by omega
         subst d10
         obtain⟨g1,sr,g2,g3,g4,g5,g6,g7,g8⟩:=hM4.row hR
         refine⟨⟨by omega,by omega,g1⟩,sr,.inl (by rw[Int.toNat_natCast]; exact g2),λhlt3 => ?_,λhge3 => ?_⟩
         . simp only[decide_eq_true_eq]at hlt3
           have hK:K<w:=by omega
           obtain⟨_,sc,k2,k3,k4,k5,k6,k7,k8⟩:=hM4.row hk
           obtain⟨x,hx,hxl,hh,hsm⟩:=g7 K hK
           obtain⟨x',hx',hxl',hh',hsm'⟩:=k7 K hK
           rw[u0v,E0n]at hx
           rw[t0v numO _ _ _ (by omega),D0n]at hx'
           obtain⟨y,ey,hy⟩:=elN hx
           obtain⟨y',ey',hy'⟩:=elN hx'
           subst ey; subst ey'
           have qR:=hQ4 R c hR (by omega)
           have qc:=hQ4 c c hk (by omega)
           have qRK:=hQ4 R K hR hK
           have qcK:=hQ4 c K hk hK
           refine⟨⟨by omega,by omega,g1⟩,sr,.inl (by rw[Int.toNat_natCast]; exact g2),⟨by omega,by omega,g1⟩,sr,.inl (by rw[Int.toNat_natCast]; exact g2),⟨by omega,by omega,g5 (by omega)⟩,y,by rw[Int.toNat_natCast]; exact hh,by rw[Int.toNat_natCast]; exact hsm,
            ⟨by omega,by omega,g1⟩,sc,.inl (by rw[Int.toNat_natCast]; exact k2),⟨by omega,by omega,k5 (by omega)⟩,y',by rw[Int.toNat_natCast]; exact hh',by rw[Int.toNat_natCast]; exact hsm',?_⟩
           refine(m0w hf hy' (q1 c _ (by omega) qR) (q1 c _ (by omega) qc) (q1 c _ (by omega) qcK)).mono λv V9 l9 ⟨r4,hv,hr4⟩=>⟨r4,hv,?_⟩
           refine(n0w (atN.le l9 hy) hr4 (q1 c _ (by omega) qRK) (q1 c _ (by omega) qR) (q1 c _ (by omega) qc) (q1 c _ (by omega) qcK)).mono λv V10 l10 ⟨r5,hv,hr5⟩=>⟨r5,hv,⟨by omega,by omega,g5 (by omega)⟩,?_⟩
           obtain⟨v1,v2,b3,c3,l3,v3,v4,v5,v6⟩:=(hM4.le numC.le (View.le_trans l9 l10)).put hR hK (lenN r5) (W0s hr5) g2
           refine⟨b3,c3,l3,by rw[Int.toNat_natCast]; exact v3,v4,v5,?_⟩
           rw[i64w (by omega) (by omega)]
           refine⟨⟨c,s2,B4,R,K+1,rfl,rfl,hk,hs4,rfl,hkR,hR,by omega,by omega,by omega,atN.le (View.le_trans l9 l10) hf,?_,hE4,hQ4,hcl4⟩,by omega⟩
           have e:=Z0q numO (colF numO w B4 c R) (c:=c) (R:=R) (numO.div (B4 R c) (B4 c c)) hkK
           rw[<-e,E0n,D0n]; exact v6
         . simp only[decide_eq_false_iff_not]at hge3
           have e:K=w:=by omega
           subst e
           rw[i64w (by omega) (by omega)]
           rw[B0s numO K B4 hkR]at hM4
           exact⟨⟨c,s2,B4,R+1,rfl,rfl,hk,hs4,by omega,by omega,by omega,hM4,hE4,hQ4,hcl4⟩,by omega⟩
     . simp only[decide_eq_false_iff_not]at hge2
       have e:R=n:=by omega
       subst e
       rw[i64w (by omega) (by omega)]
       refine⟨⟨c+1,s2,colF numO w B3 c R,by omega,rfl,by omega,hs3,hM3,hE3,λi j hi hj => ?_⟩,by omega⟩
       unfold colF
       split
       . exact q2 c _ _ _ _ (hQ3 i j hi hj) (hQ3 i c hi (by omega)) (hQ3 c c hk (by omega)) (hQ3 c j hk hj)
       . exact q3 c _ (hQ3 i j hi hj)
 . simp only[decide_eq_false_iff_not]at hge
   have e:c=n:=by omega
   subst e
   rw[a0r]at hE
   rw[<-hE]
   exact⟨rfl,hM⟩
theorem e0i{V:View}{s:Sl}{row:List Cq}(h:A00 5 numC V s row)(hb:row.length<=2^30) :
 a00 Tryz.prog w05 #[s.v] V λv V'=>∃r:Sl,v=r.v/\A00 5 numC V' r row:=by
 obtain⟨hl,hc,hn,o,ho,hC⟩:=h
 refine o02.known (S07 (m:=λ_=>none) hC (.inr ho) hl (λe => ?_) hb) λv m V' V2 l e ap ⟨r,b,hv,hr,_⟩=>⟨r,hv,?_⟩
 . rcases Classical.em (row=[])with g|g
   . exact g
   . have:=hn g; rw[e]at this; simp at this
 . subst e
   exact hr.known (numC.le (z0b ap)) (λb cs g=>y07 g)
theorem Q05{V:View}{p:Sl}{rows:List (List Cq)}(h:K00 5 numC V p rows) :
 a00 Tryz.prog l09 #[p.v] V λv V'=>∃g:k00,v = .tuple #[g.val,.int .i64 (c0i rows)]/\K00 5 numC V' g.rows (g0h rows):=by
 have hl:p.len=rows.length:=h.len
 have bad:∀V':View,P06 rows=false->∃g:k00,Value.tuple #[(k00.mk (Sl.mk none 0 0)).val,.int .i64 4] = .tuple #[g.val,.int .i64 (c0i rows)]/\K00 5 numC V' g.rows (g0h rows):=λV' e=>by
  refine⟨⟨⟨none,0,0⟩⟩,?_,?_⟩
  . unfold c0i; rw[e]; rfl
  . unfold g0h; rw[e]; exact A00.nil
 refine W08 p V _ (λ_ _ _=>1<=rows.length/\rows.length<=64)
  (λ_ x V'=>∃(t:Nat) (l:List Value),x.t18=t/\t<=rows.length/\s03 1 x.o4_0l x.o4_0c x.o45 l/\x.o4_0l=t/\M01 1 (λV x row=>∃s:Sl,x=[s.v]/\A00 5 numC V s row) V' l (rows.take t)/\∀row∈rows.take t,e09 (K01 rows) row=true)
  (λ_ x _=>rows.length-x.t18.toNat) ?_
 rw[hl]
 refine⟨⟨λc=>bad V ?_,λc=>⟨λc'=>bad V ?_,λc' => ?_⟩⟩,?_⟩
 . unfold P06
   have c:=of_decide_eq_true c
   have:decide (1<=rows.length)=false:=decide_eq_false (by omega)
   rw[this]; rfl
 . unfold P06
   have c':=of_decide_eq_true c'
   have:decide (rows.length<=64)=false:=decide_eq_false (by omega)
   rw[this,Bool.false_and,Bool.and_false]
 . have c:=of_decide_eq_false c
   have c':=of_decide_eq_false c'
   omega
 rintro⟨o2⟩ V1 l1 ⟨n1,n2⟩
 refine⟨⟨0,[],rfl,by omega,s03.nil,rfl,rfl,by simp⟩,?_⟩
 rintro⟨t18,o2',k,c,o⟩ V2 l2 ⟨t,l,et,ht,hL,ek,hC,hall⟩
 dsimp only at et hL ek hC ⊢
 subst et; subst ek
 have L2:=View.le_trans l1 l2
 refine⟨λhlt => ?_,λhge => ?_⟩
 . have hk:k<rows.length:=by simp at hlt; omega
   have ek:rows[k]?=some rows[k]:=List.getElem?_eq_getElem hk
   have hmem:=List.getElem_mem hk
   obtain⟨g,s,h1,h2⟩:=(K00.le numC.le L2 h).row (t:=(k:Int)) (by omega) (row:=rows[k]) (by rw[Int.toNat_natCast]; exact ek)
   have hs:s.len=rows[k].length:=h2.len
   rw[hl]at g
   have tk:rows.take (k+1)=rows.take k++[rows[k]]:=by rw[List.take_add_one,ek]; rfl
   generalize rows[k]=row at *
   have no:e09 (K01 rows) row=false->P06 rows=false:=λe=>by
    unfold P06
    rw[List.all_eq_false.2 ⟨row,hmem,by rw[e]; simp⟩,Bool.and_false,Bool.and_false]
   refine⟨g,s,h1,λc1=>bad V2 (no ?_),λc1=>⟨λc2=>bad V2 (no ?_),λc2 => ?_⟩⟩
   . unfold e09
     have c1:=of_decide_eq_true c1
     have:decide (1<=row.length)=false:=decide_eq_false (by omega)
     rw[this]; rfl
   . unfold e09
     have c2:=of_decide_eq_true c2
     have:decide (row.length<=64)=false:=decide_eq_false (by omega)
     rw[this,Bool.false_and,Bool.and_false]
   obtain⟨row0,e0,e1⟩:=W0b (rows:=rows) (by omega)
   obtain⟨g0,s0,h3,h4⟩:=(K00.le numC.le L2 h).row (t:=(0:Int)) (by omega) (row:=row0) e0
   have hs0:s0.len=K01 rows:=by rw[<-e1]; exact h4.len
   rw[hl]at g0
   refine⟨g0,s0,h3,λc3=>bad V2 (no ?_),λc3 => ?_⟩
   . unfold e09
     have:decide (row.length=K01 rows)=false:=decide_eq_false (λe=>by rw[hs,hs0,e]at c3; simp at c3)
     rw[this,Bool.and_false,Bool.and_false]
   have ok:e09 (K01 rows) row=true:=by
    have c1:=of_decide_eq_false c1
    have c2:=of_decide_eq_false c2
    have c3:row.length=K01 rows:=by rw[hs,hs0]at c3; simp at c3; omega
    unfold e09
    rw[decide_eq_true (show 1<=row.length by omega),decide_eq_true (show row.length<=64 by omega),decide_eq_true c3]; rfl
   refine(e0i h2 (by have:=of_decide_eq_false c2; omega)).mono λv V3 l3 ⟨r1,hv,hr⟩=>⟨r1,hv,λb1 V4 l4 _ hb1 => ?_⟩
   have hnew:V4.has (some (Addr.mk b1 0 none)) [r1.v]:=F04 (cs:=[r1.v]) (j:=0) hb1 (λi v hv=>by rw[Nat.zero_add]; exact hv) rfl
   refine⟨l,_,hL,hnew,rfl,by intro v hv; simp at hv; subst hv; rfl,by unfold maxLen; omega,by omega,λc1 l3' hl3 => ?_⟩
   rw[i64w (by omega) (by omega)]
   have L24:=View.le_trans l3 l4
   refine⟨⟨k+1,_,by omega,by omega,hl3,rfl,?_,λrow' hr' => ?_⟩,by omega⟩
   . rw[tk]
     exact(hC.imp λ_ _ ⟨s,e,hs⟩=>⟨s,e,A00.le (numC.le L24) L24 hs⟩).append (M01.one rfl ⟨_,rfl,A00.le (numC.le l4) l4 hr⟩)
   . rw[tk]at hr'
     rcases List.mem_append.1 hr' with hr'|hr'
     . exact hall row' hr'
     . rw[show row'=row by simpa using hr']; exact ok
 . have e:k=rows.length:=by simp at hge; omega
   subst e
   rw[List.take_length]at hC hall
   intro b2 V5 l5 hb2
   have ok:P06 rows=true:=by
    unfold P06
    simp only[Bool.and_eq_true,decide_eq_true_eq,List.all_eq_true]
    exact⟨n1,n2,hall⟩
   refine⟨⟨⟨lstA b2 c,rows.length,c⟩⟩,by unfold c0i; rw[ok]; rfl,?_⟩
   unfold g0h; rw[if_pos ok]
   exact o06 hL hb2 (hC.imp λ_ _ ⟨s,e,hs⟩=>⟨s,e,A00.le (numC.le l5) l5 hs⟩) rfl
theorem z02{V:View}{g:k00}{rows:List (List Cq)}(h:K00 5 numC V g.rows rows) :
 a00 Tryz.prog W07 #[g.val] V λv _=>v = .tuple #[.int .i64 (rows.length:Int),.int .i64 (K01 rows:Int)]:=by
 have hl:g.rows.len=rows.length:=h.len
 refine B07 g V _ ⟨λc => ?_,λc => ?_⟩
 . have e:rows=[]:=List.length_eq_zero_iff.1 (by simp at c; omega)
   subst e; rfl
 . obtain⟨row0,e0,e1⟩:=W0b (rows:=rows) (by simp at c; omega)
   obtain⟨g0,s0,h3,h4⟩:=h.row (t:=(0:Int)) (by omega) (row:=row0) e0
   refine⟨g0,s0,h3,?_⟩
   rw[h4.len,e1,hl]
theorem j0g{m V:View}{g:k00}{rows:List (List Cq)}{i:Int}(h:K00 5 numC V g.rows rows)(hb:∀row,row∈rows->row.length<=2^30) :
 o02 Tryz.prog b08 #[g.val,.int .i64 i] m V λv m' V'=>∃(r:Sl) (e:Int),v = .tuple #[r.v,.int .i64 e] /\
  (0<=i/\i<rows.length->e=0/\∃b:Nat,RowR 5 numC m' V' r b (rows.getD i.toNat [])/\(rows.getD i.toNat []≠[]->m b=none)/\(∀k,k≠b\/rows.getD i.toNat []=[]->m' k=m k)) /\
  (¬(0<=i/\i<rows.length)->e=1/\r=⟨none,0,0⟩/\m'=m):=by
 have hl:g.rows.len=rows.length:=h.len
 refine J07 m g i V _ ⟨λc => ?_,λc=>⟨λc' => ?_,λc' => ?_⟩⟩
 . have c:=of_decide_eq_true c
   exact⟨_,_,rfl,λk=>absurd k.1 (by omega),λ_=>⟨rfl,rfl,rfl⟩⟩
 . have c':=of_decide_eq_true c'
   exact⟨_,_,rfl,λk=>absurd k.2 (by omega),λ_=>⟨rfl,rfl,rfl⟩⟩
 . have c:=of_decide_eq_false c
   have c':=of_decide_eq_false c'
   have hi:i.toNat<rows.length:=by omega
   have ek:rows[i.toNat]?=some (rows.getD i.toNat []):=by simp[List.getD,hi]
   obtain⟨g1,s,h1,h2⟩:=h.row (t:=i) (by omega) ek
   obtain⟨sl,_,hn,o,ho,hC⟩:=h2
   refine⟨g1,s,.inr h1,(S07 hC (.inr ho) sl (λe => ?_) (hb _ (List.mem_of_getElem? ek))).mono λv m1 V1 l1 _ ⟨r,b,hv,hr,k1,k2⟩=>⟨r,hv,r,0,rfl,λ_=>⟨rfl,b,hr,k1,k2⟩,λk=>absurd ⟨by omega,by omega⟩ k⟩⟩
   rcases Classical.em (rows.getD i.toNat []=[])with g|g
   . exact g
   . have:=hn g; rw[e]at this; simp at this
theorem w0h{V:View}{g:k00}{rows:List (List Cq)}{i j:Int}(h:K00 5 numC V g.rows rows)(hr:Rect rows)(d:Cq) :
 a00 Tryz.prog o08 #[g.val,.int .i64 i,.int .i64 j] V λv V'=>∃(r:NumV) (e:Int),v = .tuple #[r.val,.int .i64 e] /\
  ((0<=i/\i<rows.length)/\(0<=j/\j<K01 rows)->e=0/\numC V' r.val.cells.toList ((rows.getD i.toNat []).getD j.toNat d)) /\
  (¬((0<=i/\i<rows.length)/\(0<=j/\j<K01 rows))->e=1):=by
 refine X07 g i j V _ ((z02 h).mono λv V1 l1 hv=>⟨_,_,hv,λc => ?_,λc=>⟨λc2 => ?_,λc2=>⟨λc3 => ?_,λc3=>⟨λc4 => ?_,λc4 => ?_⟩⟩⟩⟩)
 . have c:=of_decide_eq_true c
   exact⟨_,_,rfl,λk=>absurd k.1.1 (by omega),λ_=>rfl⟩
 . have c2:=of_decide_eq_true c2
   exact⟨_,_,rfl,λk=>absurd k.1.2 (by omega),λ_=>rfl⟩
 . have c3:=of_decide_eq_true c3
   exact⟨_,_,rfl,λk=>absurd k.2.1 (by omega),λ_=>rfl⟩
 . have c4:=of_decide_eq_true c4
   exact⟨_,_,rfl,λk=>absurd k.2.2 (by omega),λ_=>rfl⟩
 . have c:=of_decide_eq_false c
   have c2:=of_decide_eq_false c2
   have c3:=of_decide_eq_false c3
   have c4:=of_decide_eq_false c4
   have hi:i.toNat<rows.length:=by omega
   have ek:rows[i.toNat]?=some (rows.getD i.toNat []):=by simp[List.getD,hi]
   obtain⟨g1,s,h1,h2⟩:=(K00.le numC.le l1 h).row (t:=i) (by omega) ek
   have hrl:=H0e hr ek
   have hj:j.toNat<(rows.getD i.toNat []).length:=by omega
   obtain⟨g2,x,hx,_,hh,hs⟩:=A00.get h2 (t:=j) (by omega) (z:=(rows.getD i.toNat []).getD j.toNat d) (P07 hj d)
   obtain⟨y,ey⟩:∃y:NumV,x=y.val.cells.toList:=by obtain⟨y,e,_⟩:=hx; exact⟨_,e⟩
   subst ey
   exact⟨g1,s,h1,g2,y,hh,hs,_,_,rfl,λ_=>⟨rfl,hx⟩,λk=>absurd ⟨⟨by omega,by omega⟩,by omega,by omega⟩ k⟩
theorem b0a{V:View}{g:k00}{rows:List (List Cq)}(h:K00 5 numC V g.rows rows)(hr:Rect rows)(hn:rows.length<=2^20)(hw:K01 rows<=2^20)(d:Cq) :
 a00 Tryz.prog t03 #[g.val] V λv V'=>∃r:k00,v=r.val/\K00 5 numC V' r.rows (X0d d rows):=by
 have hl:g.rows.len=rows.length:=h.len
 let n:=rows.length
 let w:=K01 rows
 let A:Nat->Nat->Cq:=λj i=>atG d rows i j
 refine k07 g V _
  (λ_ x V'=>∃k:Nat,x.t18=k/\k<=K01 rows/\x.o15.length=K01 rows/\w03 5 numC x.o0 V' x.o15 (K01 rows) (λi=>if i<k then rowL rows.length (A i)else [])) (λ_ x _=>K01 rows-x.t18.toNat)
  (λc x V'=>∃k j:Nat,c.t18=k/\k<K01 rows/\x.t24=j/\j<=rows.length/\x.o15.length=K01 rows/\w03 5 numC x.o0 V' x.o15 (K01 rows) (λi=>if i<k then rowL rows.length (A i)else if i=k then rowL j (A k)else [])) (λ_ x _=>rows.length-x.t24.toNat) ?_
 refine(z02 h).mono λv V1 l1 hv=>⟨_,_,hv,?_⟩
 rw[Int.toNat_natCast,hl]
 refine⟨⟨by omega,by omega,by omega,by omega⟩,⟨0,rfl,by omega,by simp,?_⟩,?_⟩
 . rw[z0p]; exact(x0d V1 (K01 rows)).congr λi _=>by rw[if_neg (by omega)]
 rintro⟨t18,o0,o2,o15⟩ V3 l3 ⟨k,ek,hk,hol,hR⟩
 dsimp only at ek hol hR ⊢
 subst ek
 refine⟨λhlt=>⟨⟨k,0,rfl,by simp at hlt; omega,rfl,by omega,hol,hR.congr λi hi => ?_⟩,?_⟩,λhge => ?_⟩
 . by_cases e:i<k
   . rw[if_pos e,if_pos e]
   . rw[if_neg e,if_neg e]
     split<;>rfl
 . rintro⟨t24,o0',o15'⟩ V4 l4 ⟨k',j,ek,hkw,ej,hj,hol',hR'⟩
   dsimp only at ek ej hol' hR' ⊢
   obtain rfl:k=k':=by omega
   subst ej
   refine⟨λhlt2 => ?_,λhge2 => ?_⟩
   . have hjn:j<rows.length:=by simp at hlt2; omega
     obtain⟨s3,e3,r1,r2,r3,⟨o3,r4,r5,r6⟩,r7⟩:=hR'.row (i:=k) hkw
     rw[if_neg (by omega),if_pos rfl]at r1 r6
     rw[m00]at r1
     have ejr:=P07 hjn []
     obtain⟨g1,s,g2,g3⟩:=(K00.le numC.le (View.le_trans l1 (View.le_trans l3 l4)) h).row (t:=(j:Int)) (by omega) (row:=rows.getD j []) (by rw[Int.toNat_natCast]; exact ejr)
     rw[hl]at g1
     have hkr:k<(rows.getD j []).length:=by rw[H0e hr ejr]; exact hkw
     obtain⟨d1,x,hx,hxl,hh,hs⟩:=A00.get g3 (t:=(k:Int)) (by omega) (z:=A k j) (by rw[Int.toNat_natCast]; exact P07 hkr d)
     obtain⟨y,ey⟩:∃y:NumV,x=y.val.cells.toList:=by obtain⟨y,e,_⟩:=hx; exact⟨_,e⟩
     subst ey
     refine⟨g1,s,.inr g2,⟨by omega,by omega⟩,s3,by rw[Int.toNat_natCast,Nat.mul_one,Nat.zero_add]; exact e3,d1,y,.inr hh,hs,λb2 V6 l6 _ hb2 => ?_⟩
     have hnew:V6.has (some (Addr.mk b2 0 none)) y.val.cells.toList:=F04 (cs:=y.val.cells.toList) (j:=0) hb2 (λi v hv=>by rw[Nat.zero_add]; exact hv) rfl
     have hrc:numC V6 y.val.cells.toList (A k j):=numC.le l6 _ _ hx
     refine⟨o3,_,⟨r2,r3⟩,o0c l6 r4,r5,.inr hnew,rfl,oneN hrc,by unfold maxLen; omega,by omega,λ_ h2=>r7 1 (by omega) h2,λa1 c1 m1 ha=>⟨⟨by omega,by omega⟩,by rw[hol',Int.toNat_natCast]; omega,?_⟩⟩
     have:=(hR'.le numC.le l6).app (i:=k) hkw e3 (z:=A k j) rfl hrc (o':=o3) (by rw[if_neg (by omega),if_pos rfl]; exact r6.imp (numC.le l6)) ha
     rw[i64w (by omega) (by omega)]
     refine⟨⟨k,j+1,rfl,hkw,by omega,by omega,by simp[hol'],?_⟩,by omega⟩
     have e1:(0+Int.toNat (k:Int)*1)=k:=by omega
     rw[e1]
     refine this.congr λi hi => ?_
     by_cases e:i=k
     . subst e
       simp only[if_true,Nat.lt_irrefl,if_false]
       exact Y09 _ _
     . simp only[if_neg e]
   . have e:j=rows.length:=by simp at hge2; omega
     subst e
     rw[i64w (by omega) (by omega)]
     refine⟨⟨k+1,by omega,by omega,hol',hR'.congr λi hi => ?_⟩,by omega⟩
     by_cases e:i<k
     . rw[if_pos e,if_pos (by omega)]
     . rw[if_neg e]
       by_cases e2:i=k
       . subst e2; rw[if_pos rfl,if_pos (by omega)]
       . rw[if_neg e2,if_neg (by omega)]
 . have e:k=K01 rows:=by simp at hge; omega
   subst e
   refine λb3 hb3 _=>⟨by decide,λV5 l5 hm5=>⟨_,rfl,?_⟩⟩
   have hR2:w03 5 numC o0 V3 o15 (K01 rows) (λi=>rowL rows.length (A i)):=hR.congr λi hi=>by rw[if_pos hi]
   exact(hR2.mat hol hb3).known (numC.le l5) hm5
theorem a0e{V:View}{n c:Nat}{w:List Value}{f:Nat->Int}(h1:1<=n)(hn:n<=w.length)(hw:n<=2^60)(hf:∀p,p<n->w[p]?=some (.int .u8 (f p))) :
 Z0e Tryz.prog T08 (λb=>(Value.slice (some ⟨b,0,none⟩) n c::[]:List Value)) T_u8 w V λv l _=>v = .tuple #[]/\l.length=w.length/\l.take n=(w.take n).reverse:=by
 refine s08 0 n c w V _ (λ_ x _=>∃i j:Nat,x.t2=(i:Int)/\x.t3=(j:Int)/\j+i=n-1/\(i<=j+1)/\x.o0=revI w n i) (λ_ x _=>(x.t3-x.t2+2).toNat) ⟨⟨0,n-1,rfl,?_,by omega,by omega,(g0r w n).symm⟩,?_⟩
 . show IntKind.i64.wrap ((n:Int)-1)=_
   rw[i64w (by omega) (by omega)]; omega
 rintro⟨t,u,o⟩ V1 l1 ⟨i,j,rfl,rfl,hij,hi,rfl⟩
 have gd:∀p,p<n->w.getD p undef = .int .u8 (f p):=λp hp=>by simp[List.getD,hf p hp]
 dsimp only
 refine⟨λhlt => ?_,λhge => ?_⟩
 . simp only[decide_eq_true_eq]at hlt
   have hij':i<j:=by omega
   rw[i64w (n:=(i:Int)+1) (by omega) (by omega),i64w (n:=(j:Int)-1) (by omega) (by omega)]
   simp only[Int.toNat_natCast,Nat.mul_one,Nat.zero_add]
   refine⟨⟨by omega,by omega⟩,f j,?_,⟨by omega,by omega⟩,f i,?_,⟨by omega,by omega⟩,by rw[Q06]; omega,⟨by omega,by omega⟩,by rw[List.length_set,Q06]; omega,⟨i+1,j-1,by omega,by omega,by omega,by omega,?_⟩,by omega⟩
   . rw[I0n (by omega) (by omega) (by omega),gd j (by omega)]
   . rw[I0n (by omega) (by omega) (by omega),gd i (by omega)]
   . have:=i0r (o:=w) hn hij hij'
     rw[gd i (by omega),gd j (by omega)]at this
     exact this
 . simp only[decide_eq_false_iff_not]at hge
   exact⟨rfl,Q06 _ _ _,D0s hn (by omega)⟩
theorem X0s{l:List Nat}{p:Nat}(h:p<l.length):(digC l)[p]?=some (.int .u8 ((48+l.getD p 0:Nat):Int)):=by simp[digC,h]
theorem s0w{r:Nat}:IntKind.u8.wrap (IntKind.u32.wrap (48+(Int.tmod (r:Int) 10)))=((48+r%10:Nat):Int):=by
 rw[show Int.tmod (r:Int) 10=((r%10:Nat):Int)from(Int.ofNat_tmod r 10).symm,u32w (by omega) (by omega),IntWalk.u8_in _ ⟨by omega,by omega⟩]; omega
theorem u32q{r:Nat}(h:r<4294967296):IntKind.u32.wrap (Int.tdiv (r:Int) 10)=((r / 10:Nat):Int):=by
 rw[show Int.tdiv (r:Int) 10=((r / 10:Nat):Int)from(Int.ofNat_tdiv r 10).symm,u32w (by omega) (by omega)]
theorem oneC(n:Int):∀v∈[Value.int .u8 n],Value.oneCell' v=true:=by intro v hv; simp at hv; subst hv; rfl
theorem c0a{V:View}{s:Sl}{N:Nat}(h:i02 V s N)(hb:bl N<=2^42) :
 a00 Tryz.prog T0k #[s.v] V λv _=>v = .string (decS N):=by
 have hz:=h.len_zero
 have hlow:=W0i N
 refine F0j s V _
  (λ_ x V'=>∃(X:Nat) (dl:List Nat),i02 V' x.t0 X/\X<=N/\s03 1 x.t3l x.t3c x.o3 (digC dl)/\x.t3l=dl.length/\low N=dl++low X) (λ_ x V'=>Q0i V' x.t0)
  (λc x V'=>∃(q r k:Nat) (dl:List Nat),i02 V' c.t0 q/\q<=N/\x.t4=(r:Int)/\x.t5=(k:Int)/\k<=9/\r<10^(9-k)/\s03 1 x.t3l x.t3c x.o3 (digC dl)/\x.t3l=dl.length/\low N=dl++low (q*10^(9-k)+r)) (λ_ x _=>(9-x.t5).toNat)
  ⟨λh0 => ?_,λh0=>⟨⟨N,[],h,Nat.le_refl _,s03.nil,rfl,rfl⟩,?_⟩⟩
 . have:s.len=0:=by have:(s.len:Int)=0:=(by simpa using h0); omega
   rw[hz.1 this,d0r]
 have hN0:N≠0:=by
  intro e; rw[<-hz]at e; rw[e]at h0; simp at h0
 rintro⟨t0,n,c,o⟩ V1 l1 ⟨X,dl,hX,hXN,hlo,hn,hval⟩
 dsimp only at hX hlo hn ⊢
 have hXz:=hX.len_zero
 refine⟨λhp => ?_,λhp => ?_⟩
 . simp only[gt_iff_lt,decide_eq_true_eq]at hp
   have hX0:X≠0:=λe=>by rw[<-hXz]at e; omega
   have hbX:bl X<=2^42:=Nat.le_trans (W0d hXN) hb
   refine(G0d (d:=1000000000) hX (s0p (by omega)) (by omega) (by omega)).mono λv V2 l2 ⟨r1,hv,h1⟩=>⟨r1,_,hv,⟨X / 1000000000,X%1000000000,0,dl,h1,Nat.le_trans (Nat.div_le_self _ _) hXN,rfl,rfl,by omega,?_,hlo,hn,?_⟩,?_⟩
   . exact Nat.mod_lt _ (by omega)
   . have:X / 1000000000*10^(9-0)+X%1000000000=X:=by
       rw[show(10:Nat)^(9-0)=1000000000 by decide]; omega
     rw[this]; exact hval
   rintro⟨n3,c3,r3,k3,o3⟩ V3 l3 ⟨q,r,k,dl3,hq,hqN,rfl,rfl,hk,hr,hlo3,hn3,hval3⟩
   dsimp only at hq hlo3 hn3 ⊢
   have hqe:=hq.inj (h1.le l3)
   have hlt9:r<1000000000:=Nat.lt_of_lt_of_le hr (by
    have:(10:Nat)^(9-k)<=10^9:=Nat.pow_le_pow_right (by omega) (by omega)
    exact Nat.le_trans this (by decide))
   have hl3:dl3.length<=2^42:=by
    have:=congrArg List.length hval3
    rw[List.length_append]at this; omega
   have hqz:=hq.len_zero
   have step:(q≠0\/r≠0)->k<9->∀(b1:Nat) (V4:View),V3.le V4->View.Fin V4->V4 b1=some #[.int .u8 (IntKind.u8.wrap (IntKind.u32.wrap (48+(Int.tmod (r:Int) 10))))] ->
    ∃(l1:List Value) (l2:List Value),s03 1 n3 c3 o3 l1/\View.has V4 (some (Addr.mk b1 0 none)) l2/\List.length l2=1*1/\(∀v∈l2,Value.oneCell' v=true)/\n3+1<=maxLen/\(n3+1)*1<=140737488355328 /\
    ∀(c1:Nat) (l3:List Value),s03 1 (n3+1) c1 l3 (l1++l2) ->
    (∃(q' r' k':Nat) (dl:List Nat),i02 V4 r1 q'/\q'<=N/\(IntKind.u32.wrap (Int.tdiv (r:Int) 10))=(r':Int)/\(IntKind.i64.wrap ((k:Int)+1))=(k':Int)/\k'<=9/\r'<10^(9-k')/\s03 1 (n3+1) c1 l3 (digC dl)/\n3+1=dl.length/\low N=dl++low (q'*10^(9-k')+r'))/\(9-(IntKind.i64.wrap ((k:Int)+1))).toNat<(9-(k:Int)).toNat:=by
    intro hne hk9 b1 V4 l4 _ hb1
    rw[s0w]at hb1
    have hrr:r / 10<10^(9-(k+1)):=by
     have:10^(9-k)=10^(9-(k+1))*10:=by rw[<-Nat.pow_succ]; congr 1; omega
     omega
    have hst:=C0s (q:=q) (r:=r) (k:=9-(k+1)) hne
    rw[show 9-(k+1)+1=9-k by omega]at hst
    refine⟨digC dl3,[.int .u8 ((48+r%10:Nat):Int)],hlo3,a0a hb1,rfl,oneC _,Nat.le_trans (show n3+1<=2^43 by omega) (by decide),by omega,λc1 l3' hl3'=>⟨⟨q,r / 10,k+1,dl3++[r%10],hq.le l4,hqN,u32q (by omega),by rw[i64w (by omega) (by omega)]; omega,hk9,hrr,?_,by simp[hn3],?_⟩,by rw[i64w (by omega) (by omega)]; omega⟩⟩
    . rw[<-O0m]; exact hl3'
    . rw[hval3,hst]; simp
   have stop:(k=9\/q=0/\r=0)->(∃(X:Nat) (dl:List Nat),i02 V3 r1 X/\X<=N/\s03 1 n3 c3 o3 (digC dl)/\n3=dl.length/\low N=dl++low X)/\Q0i V3 r1<Q0i V1 t0:=by
    intro hs
    refine⟨⟨q,dl3,hq,hqN,hlo3,hn3,?_⟩,?_⟩
    . rcases hs with rfl|⟨rfl,rfl⟩
      . have:r=0:=by simp at hr; omega
        subst this
        simpa using hval3
      . simpa using hval3
    . rw[C0e hq,C0e hX,hqe]
      omega
   refine⟨λhk9=>⟨λhq1=>⟨λ_=>step (.inl ?_) (by have:(k:Int)<9:=(by simpa using hk9); omega),λh=>absurd h (by simp)⟩,λhq1=>⟨λhr1=>step (.inr ?_) (by have:(k:Int)<9:=(by simpa using hk9); omega),λhr1=>stop (.inr ⟨?_,?_⟩)⟩⟩,λhk9=>⟨λh=>absurd h (by simp),λ_=>stop (.inl ?_)⟩⟩
   . simp only[gt_iff_lt,decide_eq_true_eq]at hq1
     intro e; rw[<-hqz]at e; omega
   . simp only[gt_iff_lt,decide_eq_true_eq]at hr1; omega
   . simp only[gt_iff_lt,decide_eq_false_iff_not]at hq1; exact hqz.1 (by omega)
   . simp only[gt_iff_lt,decide_eq_false_iff_not]at hr1; omega
   . simp only[decide_eq_false_iff_not]at hk9; omega
 . simp only[gt_iff_lt,decide_eq_false_iff_not]at hp
   have hX0:X=0:=hXz.1 (by omega)
   rw[hX0,Y0j,List.append_nil]at hval
   subst hval
   have hd0:low N≠[]:=by rw[Z0j hN0]; simp
   have hl0:0<(low N).length:=List.length_pos_iff.2 hd0
   have hle:=hlo.le
   have htk:=hlo.take
   have hol:=hlo.len
   rw[Nat.mul_one]at htk hol
   have htl:n<=o.length:=by omega
   have g:∀p,p<n->o[p]?=some (.int .u8 (((48+(low N).getD p 0:Nat):Nat):Int)):=by
    intro p hp'
    rw[<-List.getElem?_take_of_lt hp',htk]
    exact X0s (by omega)
   refine⟨⟨by intro e; rw[e]at htl; simp at htl; omega,⟨by omega,trivial⟩,trivial⟩,?_⟩
   refine(a0e (c:=c) (f:=λp=>((48+(low N).getD p 0:Nat):Int)) (by omega) htl (by omega) g).mono λv l10 V7 l7 ⟨hv,hl10,ht10⟩=>⟨hv,λb4 V8 l8 hb4 => ?_⟩
   refine⟨decL N,?_,by rw[j0h hN0]; omega,rfl,rfl⟩
   rw[htk,E0s hN0]at ht10
   intro j v hj
   have hjl:j<n:=by
    rcases Nat.lt_or_ge j n with h|h
    . exact h
    . rw[List.getElem?_eq_none (by simp[j0h hN0]; omega)]at hj; simp at hj
   rw[t07 hb4]
   rw[<-ht10,List.getElem?_take_of_lt hjl]at hj
   simpa using hj
def d0a(a:Int)(d:Nat):Cq:=⟨(a:Rat) / (d:Rat),0⟩
theorem D0l{a:Int}{d:Nat}(h:d≠0):Rep (d0a a d) a 0 d:=⟨h,rfl,by show(0:Rat)=_; rw[Rat.div_def]; simp⟩
theorem y0t(z:Cq):(⟨z.re,0⟩:Cq)=d0a z.A z.D:=Cq.ext' z.canon.rep.re rfl
theorem z0t(z:Cq):(⟨z.im,0⟩:Cq)=d0a z.B z.D:=Cq.ext' z.canon.rep.im rfl
theorem A0r{a:Int}{d:Nat}(h:d≠0):(d0a a d).A.natAbs=a.natAbs / Nat.gcd a.natAbs d/\(d0a a d).D=d / Nat.gcd a.natAbs d/\((d0a a d).A<0↔a<0):=by
 obtain⟨e1,e2,e3⟩:=(D0l (a:=a) h).eqs
 have hg:gcd3 a 0 d=Nat.gcd a.natAbs d:=by simp[gcd3]
 have d1:=D0e a 0 d
 have k1:=f08 d1
 have k2:=U0d d1 (P0j a 0 h)
 rw[e1,e3,k1,hg]
 rw[hg]at k2
 exact⟨rfl,rfl,by simpa using k2⟩
theorem S0n{a:Int}{d:Nat}(h:d≠0):bl (d0a a d).A.natAbs<=bl a.natAbs/\bl (d0a a d).D<=bl d:=by
 obtain⟨e1,e2,_⟩:=A0r (a:=a) h
 rw[e1,e2]
 exact⟨W0d (Nat.div_le_self _ _),W0d (Nat.div_le_self _ _)⟩
def ratT(a:Int)(d:Nat):ByteArray:=ratS (d0a a d).A (d0a a d).D
theorem Y0b{V:View}{x:WhV}{s:Sl}{a:Int}{d:Nat}(hx:l07 V x a)(hs:i02 V s d)(hd:d≠0)(ha:bl a.natAbs<=2^41)(hdb:bl d<=2^41) :
 a00 Tryz.prog P0o #[x.val,s.v] V λv _=>v = .string (ratT a d):=by
 obtain⟨b1,b2⟩:=S0n (a:=a) hd
 have s1:=I0e (d0a a d).A.natAbs
 have s2:=I0e (d0a a d).D
 have hmax:IntKind.i64.max=9223372036854775807:=by decide
 have z1:(ByteArray.mk #[45]).size=1:=rfl
 have z2:(ByteArray.mk #[47]).size=1:=rfl
 refine E0m x s V _ ((m06 hx (l07.zero V) hs (D0l hd) (s0p (by omega)) (by rw[show Int.natAbs 0=0 from rfl,T0d]; omega) (s0p (by omega))).mono λv V1 l1 ⟨r,hv,hr⟩=>⟨r,hv,?_⟩)
 have hu:=hr.under
 have hn:=hr.re.1
 have hD:=(d0a a d).D_pos
 refine(c0a hr.re.2 (by omega)).mono λv V2 l2 hv=>⟨_,hv,λhneg=>⟨by rw[z1,hmax]; omega,λhul => ?_,λhul => ?_⟩,λhneg=>⟨λhul => ?_,λhul => ?_⟩⟩
 . simp only[gt_iff_lt,decide_eq_true_eq]at hul
   have h1:(d0a a d).D≠1:=λe=>by rw[e,if_pos rfl]at hu; have:=hu.len_zero.2 rfl; omega
   rw[if_neg h1]at hu
   refine(c0a (hu.le l2) (by omega)).mono λv V3 l3 hv=>⟨_,hv,by rw[z2,hmax]; omega,by rw[C09,C09,z1,z2,hmax]; omega,?_⟩
   unfold ratT ratS
   rw[hneg]at hn
   have hn:(d0a a d).A<0:=of_decide_eq_true hn.symm
   simp only[hn,h1,if_true,if_false]; rfl
 . simp only[gt_iff_lt,decide_eq_false_iff_not]at hul
   have h1:(d0a a d).D=1:=by
    have:=hu.len_zero.1 (by omega)
    split at this<;>omega
   unfold ratT ratS
   rw[hneg]at hn
   have hn:(d0a a d).A<0:=of_decide_eq_true hn.symm
   simp only[hn,h1,if_true]; rfl
 . simp only[gt_iff_lt,decide_eq_true_eq]at hul
   have h1:(d0a a d).D≠1:=λe=>by rw[e,if_pos rfl]at hu; have:=hu.len_zero.2 rfl; omega
   rw[if_neg h1]at hu
   refine(c0a (hu.le l2) (by omega)).mono λv V3 l3 hv=>⟨_,hv,by rw[z2,hmax]; omega,by rw[C09,z2,hmax]; omega,?_⟩
   unfold ratT ratS
   rw[hneg]at hn
   have hn:¬(d0a a d).A<0:=of_decide_eq_false hn.symm
   simp only[hn,h1,if_false]; rfl
 . simp only[gt_iff_lt,decide_eq_false_iff_not]at hul
   have h1:(d0a a d).D=1:=by
    have:=hu.len_zero.1 (by omega)
    split at this<;>omega
   unfold ratT ratS
   rw[hneg]at hn
   have hn:¬(d0a a d).A<0:=of_decide_eq_false hn.symm
   simp only[hn,h1,if_false,if_true]
theorem K0v(z:Cq):cqS z=if z.B=0 then ratT z.A z.D else if z.A=0 then ratT z.B z.D++strI else if z.B<0 then ratT z.A z.D++(ratT z.B z.D++strI)else ratT z.A z.D++(e0r++(ratT z.B z.D++strI)):=by
 unfold cqS
 rw[y0t,z0t]; rfl
theorem E0l{a:Int}{d:Nat}(h:d≠0):(ratT a d).size<=bl a.natAbs+bl d+4:=by
 have h1:=f0r (d0a a d).A (d0a a d).D
 obtain⟨b1,b2⟩:=S0n (a:=a) h
 unfold ratT; omega
theorem lenT(n:Nat):(((n:Int)==0)=true↔n=0):=by simp
theorem P0e{V:View}{x:NumV}{z:Cq}(hx:J01 V x z)(hz:z.sz<=2^40):a00 Tryz.prog K0o #[x.val] V λv _=>v = .string (cqS z):=by
 have zA:=z.szA; have zB:=z.szB; have zD:=z.szD
 have hD:=z.D_pos
 have t1:=E0l (a:=z.A) hD
 have t2:=E0l (a:=z.B) hD
 have hmax:IntKind.i64.max=9223372036854775807:=by decide
 have z1:(ByteArray.mk #[105]).size=1:=rfl
 have z2:(ByteArray.mk #[43]).size=1:=rfl
 rw[K0v]
 refine F0m x V _ ((n06 hx).mono λv V1 l1 hv=>⟨_,hv,λhr => ?_,λhr => ?_⟩)
 . have hB:z.B=0:=by
     rw[Cq.B_zero]; simpa using hr
   refine(T02 (hx.le l1)).mono λv V2 l2 ⟨r,hv,h2⟩=>⟨r,hv,?_⟩
   refine(Y0b (hx.re.le (View.le_trans l1 l2)) h2 hD (by omega) (by omega)).mono λv V3 l3 hv=>⟨_,hv,?_⟩
   rw[if_pos hB]
 . have hB:¬z.B=0:=by
     rw[Cq.B_zero]; simpa using hr
   rw[if_neg hB]
   refine(T02 (hx.le l1)).mono λv V2 l2 ⟨r,hv,h2⟩=>⟨r,hv,?_⟩
   refine(Y0b (hx.im.le (View.le_trans l1 l2)) h2 hD (by omega) (by omega)).mono λv V3 l3 hv=>⟨_,hv,by rw[z1,hmax]; omega,λhA => ?_,λhA=>⟨λhn=>⟨by rw[C09,z1,z2,hmax]; omega,?_⟩,λhn => ?_⟩⟩
   . have hA:z.A=0:=by
       have:=(lenT _).1 hA
       have:=hx.re.2.len_zero.1 this; omega
     rw[if_pos hA]; rfl
   all_goals
    have hA:¬z.A=0:=by
     intro e
     have:=hx.re.2.len_zero.2 (by omega)
     rw[this]at hA; simp at hA
    rw[if_neg hA]
    have hneg:=hx.im.1
    refine(T02 (hx.le (View.le_trans l1 (View.le_trans l2 l3)))).mono λv V4 l4 ⟨r4,hv,h4⟩=>⟨r4,hv,?_⟩
    refine(Y0b (hx.re.le (View.le_trans l1 (View.le_trans l2 (View.le_trans l3 l4)))) h4 hD (by omega) (by omega)).mono λv V5 l5 hv=>⟨_,hv,by simp only[C09,z1,z2]; rw[hmax]; omega,?_⟩
   . have hn:¬z.B<0:=by
       have:x.im.neg=false:=by simpa using hn
       rw[this]at hneg; exact of_decide_eq_false hneg.symm
     rw[if_neg hn]; rfl
   . have hn:z.B<0:=by
       have:x.im.neg=true:=by simpa using hn
       rw[this]at hneg; exact of_decide_eq_true hneg.symm
     rw[if_pos hn]; rfl
def all4:List Cq:=[⟨1,0⟩,⟨0,-1⟩,⟨-1,0⟩,⟨0,1⟩]
def T0n(n:Nat):List Cq:=(List.range n).map λj=>nth all4 (4 / n*j)
theorem L0v:(⟨((1:Int):Rat),0⟩:Cq)=⟨1,0⟩:=Cq.ext' (by simp) rfl
theorem M0v:(⟨((0:Int):Rat) / ((1:Int):Rat),((-1:Int):Rat) / ((1:Int):Rat)⟩:Cq)=⟨0,-1⟩:=Cq.ext' (by simp only[]; grind) (by simp only[]; grind)
theorem N0v:(⟨((-1:Int):Rat),0⟩:Cq)=⟨-1,0⟩:=Cq.ext' (by simp only[]; grind) rfl
theorem O0v : -(⟨0,-1⟩:Cq)=⟨0,1⟩:=Cq.ext' (by rw[J08]; grind) (by rw[K08]; grind)
theorem i09{V:View}{n:Nat}(hn:n=1\/n=2\/n=4) :
 a00 Tryz.prog l0f #[.int .i64 (n:Int)] V λv V'=>∃r:Sl,v = .tuple #[r.v,.int .i64 0]/\b02 V' r (T0n n):=by
 have hd:(4 / n)*n=4:=by rcases hn with rfl|rfl|rfl<;>rfl
 have hpos:1<=4 / n:=by rcases hn with rfl|rfl|rfl<;>decide
 have hn4:n<=4:=by omega
 have hn0:n≠0:=by omega
 have hdi:Int.tdiv 4 (n:Int)=((4 / n:Nat):Int):=by rcases hn with rfl|rfl|rfl<;>rfl
 have hw:IntKind.i64.wrap (Int.tdiv 4 (n:Int))=((4 / n:Nat):Int):=by
  rw[hdi]
  refine i64w (by omega) ?_
  have:4 / n<=4:=Nat.div_le_self _ _
  omega
 have hq:4 / n<=4:=Nat.div_le_self _ _
 refine w0e (n:Int) V _ (λc x V'=>∃l,b02 V' c.t6 all4/\x.t8=(4 / n*x.t7l:Nat)/\x.t7l<=n/\s03 5 x.t7l x.t7c x.o7 l/\j05 V' l ((List.range x.t7l).map λj=>nth all4 (4 / n*j)))
  (λ_ x _=>n-x.t7l) ((T06 (Int.natCast_nonneg _)).mono λv V1 l1 hv=>⟨_,hv,λh => ?_,λh=>⟨λh => ?_,λ_ => ?_⟩⟩)
 . exfalso
   rw[Int.toNat_natCast]at h
   rcases hn with rfl|rfl|rfl<;>exact absurd h (by decide)
 . exfalso; simp at h; omega
 refine(H0a (by omega) (by omega) (by omega) (by omega) (by omega) (by omega) (by omega)).mono λv V2 l2 ⟨r2,hv,h2⟩=>⟨r2,0,hv,?_⟩
 refine(S06 (by omega) (by omega)).mono λv V3 l3 ⟨r4,hv,h4⟩=>⟨r4,hv,?_⟩
 refine(S06 (by omega) (by omega)).mono λv V4 l4 ⟨r5,hv,h5⟩=>⟨r5,hv,?_⟩
 rw[M0v]at h2
 rw[L0v]at h4
 rw[N0v]at h5
 refine(X0f (h2.le (View.le_trans l3 l4))).mono λv V5 l5 ⟨r6,hv,h6⟩=>⟨r6,hv,?_⟩
 rw[O0v]at h6
 intro b V6 l6 hf hb
 have hall:b02 V6 (Sl.mk (some (Addr.mk b 0 none)) 4 4) all4 :=
  N05 (o:=[.bool r4.re.neg,r4.re.mag.v,.bool r4.im.neg,r4.im.mag.v,r4.under.v]++([.bool r2.re.neg,r2.re.mag.v,.bool r2.im.neg,r2.im.mag.v,r2.under.v]++([.bool r5.re.neg,r5.re.mag.v,.bool r5.im.neg,r5.im.mag.v,r5.under.v]++([.bool r6.re.neg,r6.re.mag.v,.bool r6.im.neg,r6.im.mag.v,r6.under.v]++[]))))
   (by simpa using hb)
   ⟨_,_,rfl,rfl,⟨r4,rfl,h4.le (View.le_trans l4 (View.le_trans l5 l6))⟩,_,_,rfl,rfl,⟨r2,rfl,h2.le (View.le_trans l3 (View.le_trans l4 (View.le_trans l5 l6)))⟩,_,_,rfl,rfl,⟨r5,rfl,h5.le (View.le_trans l5 l6)⟩,_,_,rfl,rfl,⟨r6,rfl,h6.le l6⟩,rfl⟩ rfl
 refine⟨⟨[],hall,by simp,by simp,s03.nil,rfl⟩,?_⟩
 rintro⟨k,c,t,o⟩ V7 l7 ⟨l,hA,ht,hk,hlo,hin⟩
 simp only at hA ht hk hlo hin ⊢
 refine⟨λhlt => ?_,λhge => ?_⟩
 . simp only[decide_eq_true_eq]at hlt
   have hkn:k<n:=by
    rcases Nat.lt_or_ge k n with h|h
    . exact h
    . have:=Nat.mul_le_mul_left (4 / n) h
      omega
   obtain⟨hb',x,hx,hs,hnx⟩:=hA.get (t:=t) (by omega) (by simp[all4]; omega)
   refine⟨hb',x,hx,hs,λb2 V8 l8 hf8 hb8 => ?_⟩
   refine⟨l,_,hlo,a0a (l:=[.bool x.re.neg,x.re.mag.v,.bool x.im.neg,x.im.mag.v,x.under.v]) hb8,rfl,q0h x,Nat.le_trans (show k+1<=5 by omega) (show 5<=maxLen by decide),by omega,λc1 l3' hl3=>⟨by omega,⟨_,hA.le l8,?_,by omega,hl3,?_⟩,by omega⟩⟩
   . rw[hw,i64w (by omega) (by omega),ht,Nat.mul_add]; omega
   . rw[<-T0i]
     have e3:4 / n*k=t.toNat:=by omega
     rw[e3]
     exact(hin.le l8).push (hnx.le l8)
 . simp only[decide_eq_false_iff_not]at hge
   intro b3 V9 l9 hb9
   refine⟨_,rfl,?_⟩
   have hkn:k=n:=by
    rcases Nat.lt_or_ge k n with h|h
    . have:=Nat.mul_le_mul_left (4 / n) (show k+1<=n from h)
      rw[Nat.mul_add]at this
      omega
    . omega
   subst hkn
   refine o06 hlo hb9 (hin.le l9) ?_
   simp[T0n]
theorem b0e{V:View}{p w:Sl}{m:Nat}{zs ws:List Cq}(S T:Nat)(hm:m<=6)(hz:zs.length=2^m)(hw:ws.length=2^m)(hp:b02 V p zs)(hq:b02 V w ws)
 (hS:∀i,i<2^m->(nth zs i).sz<=S) (hT:∀i,i<2^m->(nth ws i).sz<=T) (hsz:2^m*(S+T+2)<=2^39) :
 a00 Tryz.prog L05 #[p.v,w.v] V λv V'=>∃r:Sl,v = .tuple #[r.v,.int .i64 0]/\b02 V' r (d02 m zs ws):=by
 have hpl:=hp.len
 have hwl:=hq.len
 have hl:lenB w.len=true:=by
  rw[hwl,hw]
  have key:∀m∈List.range 7,lenB (2^m)=true:=by decide
  exact key m (by simp; omega)
 refine o0a p w V _ ((Z09 p w).mono λv V1 l1 hv=>⟨_,hv,λh => ?_,λh => ?_⟩)
 . rw[hl]at h; simp at h; omega
 . have ne:d02 m zs ws≠[]:=by
     intro e
     have:=E02 m zs ws
     rw[e]at this; simp at this
     have:0<2^m:=Nat.pow_pos (by omega)
     omega
   exact(C0f ne (K05 m S T hm hz hw (hp.le l1) (hq.le l1) hS hT hsz)).mono λv V2 l2 ⟨r,hv,hr⟩=>⟨r,hv,r,rfl,hr⟩
def rnth(rs:List RatV)(i:Nat):RatV:=rs.getD i ⟨0,0,0⟩
theorem x0h{V:View}{s:Sl}{zs:List Cq}(h:b02 V s zs)(hn:zs.length<=2^32) :
 a00 Tryz.prog c08 #[s.v] V λv V'=>∃r:Sl,v=r.v/\b02 V' r (W06 zs):=by
 have hl:=h.len
 refine Y07 s V _ (λ_ x V'=>0<=x.t10/\x.t10<=s.len/\j05 V' x.o7 (F0c s.len x.t10.toNat λi=>(nth zs i).conj)) (λ_ x _=>s.len-x.t10.toNat)
  ⟨⟨by omega,by omega,by omega,by omega⟩,⟨Int.le_refl 0,Int.natCast_nonneg _,?_⟩,?_⟩
 . rw[Int.toNat_natCast]
   show j05 V _ (F0c s.len 0 _)
   rw[L0m]; exact j05.zeros _ _
 rintro⟨t,o⟩ V1 l1 ⟨h0,h1,ho⟩
 dsimp only at h0 h1 ho ⊢
 rw[Int.toNat_natCast]
 refine⟨λhlt => ?_,λhge => ?_⟩
 . simp only[decide_eq_true_eq]at hlt
   obtain⟨hb,x,hx,hs,hnx⟩:=(h.le l1).get h0 (by omega)
   refine⟨hb,x,hx,hs,(M0e hnx).mono λv V2 l2 ⟨r,hv,hr⟩=>⟨r,hv,⟨h0,hlt⟩,M01.room ho (by rw[G0e (by omega)]; omega),?_⟩⟩
   have e:IntKind.i64.wrap (t+1)=t+1:=i64w (by omega) (by omega)
   have e2:(t+1).toNat=t.toNat+1:=by omega
   rw[e]
   refine⟨⟨by omega,by omega,?_⟩,by omega⟩
   rw[e2,<-u0p (by omega)]
   exact(ho.le l2).set (by rw[G0e (by omega)]; omega) hr
 . simp only[decide_eq_false_iff_not]at hge
   intro b V3 l3 hb
   have e:t.toNat=s.len:=by omega
   rw[e,t0p]at ho
   refine⟨_,rfl,N05 (zs:=W06 zs) hb ?_ (by simp[W06,hl])⟩
   unfold W06
   rw[<-hl]; exact ho.le l3
theorem y0u{V:View}{p q:Int}(p0 : -9223372036854775808<=p)(p1:p<=9223372036854775807)(q0 : -9223372036854775808<=q)(q1:q<=9223372036854775807)(hq:q≠0) :
 a00 Tryz.prog I0b #[.int .i64 p,.int .i64 q] V λv V'=>∃r:NumV,v=r.val/\J01 V' r ⟨(p:Rat) / (q:Rat),((0:Int):Rat) / (q:Rat)⟩:=by
 refine n0b p q V _ ((H0a p0 p1 (by omega) (by omega) q0 q1 hq).mono λv V1 l1 ⟨r,hv,hr⟩=>⟨r,0,hv,?_⟩)
 exact(p0h hr).mono λv V2 l2 ⟨r3,hv,h3⟩=>⟨r3,hv,r3,rfl,h3⟩
theorem W0m{V:View}{l:List Value}{zs:List Cq}{c:Nat}(h:j05 V l zs)(h1:1<=zs.length)(hn:zs.length<=64)(hS:∀i,i<zs.length->(nth zs i).sz<=2^39) :
 E0f Tryz.prog L09 (λb=>(Value.slice (some ⟨b,0,none⟩) zs.length c::[]:List Value)) D0i l V λl' V'=>j05 V' l' (l06 zs):=by
 refine q09 0 zs.length c l V _ (λ_ x V'=>0<=x.t10/\x.t10<=zs.length/\j05 V' x.o0 (q0f zs.length x.t10.toNat (λi=>nth zs i*s0a zs.length) (nth zs))) (λ_ x _=>zs.length-x.t10.toNat) ?_
 refine(y0u (p:=1) (q:=(zs.length:Int)) (by omega) (by omega) (by omega) (by omega) (by omega)).mono λv V1 l1 ⟨r1,hv,hr1⟩=>⟨r1,hv,⟨Int.le_refl 0,Int.natCast_nonneg _,?_⟩,?_⟩
 . show j05 V1 l (q0f zs.length 0 _ _)
   rw[x0p]; exact h.le l1
 rintro⟨t,o⟩ V2 l2 ⟨h0,ht,ho⟩
 dsimp only at h0 ht ho ⊢
 refine⟨λhlt => ?_,λhge => ?_⟩
 . simp only[decide_eq_true_eq]at hlt
   have hk:t.toNat<zs.length:=by omega
   obtain⟨x,hx,hnx⟩:=ho.cut (i:=t.toNat) (by rw[G0c]; exact hk)
   rw[U0q hk (Nat.le_refl _)]at hnx
   have hs:=B0n h1 hn
   refine⟨⟨h0,hlt⟩,x,hx,(n03 hnx (hr1.le l2) (by have:=hS _ hk; omega) (by show(s0a zs.length).sz<=_; omega)).mono λv V3 l3 ⟨r2,hv,hr2⟩=>⟨r2,hv,⟨h0,hlt⟩,M01.room ho (by rw[G0c]; exact hk),?_⟩⟩
   have e:IntKind.i64.wrap (t+1)=t+1:=i64w (by omega) (by omega)
   have e2:(t+1).toNat=t.toNat+1:=by omega
   rw[e]
   refine⟨⟨by omega,by omega,?_⟩,by omega⟩
   rw[e2,<-T0q hk]
   exact(ho.le l3).set (by rw[G0c]; exact hk) hr2
 . simp only[decide_eq_false_iff_not]at hge
   have e:t.toNat=zs.length:=by omega
   rw[e,S0q]at ho
   exact⟨⟨rfl,rfl,rfl⟩,ho⟩
theorem d0k:∀m∈List.range 7,lenB (2^m)=true:=by decide
theorem e0k{V:View}{p w:Sl}{m:Nat}{zs ws:List Cq}(S T:Nat)(hm:m<=6)(hz:zs.length=2^m)(hw:ws.length=2^m)(hp:b02 V p zs)(hq:b02 V w ws)
 (hS:∀i,i<2^m->(nth zs i).sz<=S) (hT:∀i,i<2^m->(nth ws i).sz<=T) (hsz:64*(S+T+2)<=2^39) :
 a00 Tryz.prog H04 #[p.v,w.v] V λv V'=>∃r:Sl,v = .tuple #[r.v,.int .i64 0]/\b02 V' r (l06 (d02 m zs (W06 ws))):=by
 have hl:lenB (2^m)=true:=d0k m (by simp; omega)
 have hb:=T0m hl
 have hpl:=hp.len
 have hwl:=hq.len
 refine t08 p w V _ ((Z09 p w).mono λv V1 l1 hv=>⟨_,hv,λh => ?_,λ_ => ?_⟩)
 . exfalso
   rw[hwl,hw,hl,hpl,hz]at h; simp at h
 refine(x0h (hq.le l1) (by omega)).mono λv V2 l2 ⟨r2,hv,h2⟩=>⟨r2,hv,?_⟩
 have hcl:(W06 ws).length=2^m:=by rw[H0c,hw]
 have hT2:=T0j ws T (by rw[hw]; exact hT)
 rw[hw]at hT2
 have hfs:=C08 m zs (W06 ws) S T hz hcl hS hT2
 have hmul:2^m*(S+T+2)<=64*(S+T+2):=Nat.mul_le_mul_right _ hb.2
 refine(K05 m S T hm hz hcl (hp.le (View.le_trans l1 l2)) h2 hS hT2 (by omega)).mono λn c l rest V3 l3 ⟨hn,hc,hr,hin⟩=>⟨hr,?_⟩
 have hfl:=E02 m zs (W06 ws)
 have hlne:l≠[]:=by
  intro e; subst e
  have:=M01.length hin
  rw[hfl]at this
  simp at this; omega
 refine⟨⟨by omega,hlne⟩,?_⟩
 subst hn
 refine(W0m (c:=c) hin (by omega) (by omega) (by rw[hfl]; intro i hi; have:=hfs i hi; omega)).mono λl2' V4 l4 h4 => ?_
 intro b V5 l5 hb5
 refine⟨_,rfl,?_⟩
 rw[hc]
 exact N05 hb5 (h4.le l5) (by rw[F0d])
theorem y0h{m:Nat}(hm:m<=2):T0n (2^m)=U02 m:=by
 have:m=0\/m=1\/m=2:=by omega
 rcases this with rfl|rfl|rfl<;>simp[T0n,U02,all4,nth,List.range_succ,one1,one2,one4]
theorem U0n{m:Nat}(hm:m<=2):∀i,i<2^m->(nth (U02 m) i).sz<=4:=by
 have:m=0\/m=1\/m=2:=by omega
 rcases this with rfl|rfl|rfl<;>decide +kernel
def x0f(p:Int):Nat:=(Int.tmod p 3).toNat
theorem Q0e{p:Int}(h:0<=p):x0f p<=2:=by
 unfold x0f
 rw[Int.tmod_eq_emod_of_nonneg h]; omega
def k0g(zs ws:List Cq):List Cq:=d02 (Nat.log2 ws.length) zs ws
def l0g(zs ws:List Cq):List Cq:=l06 (d02 (Nat.log2 ws.length) zs (W06 ws))
theorem T07(m:Nat):Nat.log2 (2^m)=m:=by simp
def okSz(S:Nat)(zs:List Cq):Prop:=∀z∈zs,z.sz<=S
theorem okSz.at{S:Nat}{zs:List Cq}(h:okSz S zs)(h1:1<=S)(i:Nat):(nth zs i).sz<=S:=by
 rcases Nat.lt_or_ge i zs.length with g|g
 . exact h _ (List.mem_of_getElem? (S0j g))
 . have:nth zs i=Cq.zero:=by unfold nth; simp[List.getD,List.getElem?_eq_none g]
   rw[this]
   exact Nat.le_trans D09 h1
theorem okSz.of{S:Nat}{zs:List Cq}(h:∀i,i<zs.length->(nth zs i).sz<=S):okSz S zs:=λz hz=>by
 obtain⟨i,hi,e⟩:=List.getElem_of_mem hz
 have:=h i hi
 have e2:nth zs i=z:=by unfold nth; simp[List.getD,hi,e]
 rw[e2]at this; exact this
theorem Y0f{zs ws:List Cq}{m:Nat}(hw:ws.length=2^m):(k0g zs ws).length=2^m:=by unfold k0g; rw[hw,T07,E02]
theorem Z0f{zs ws:List Cq}{m:Nat}(hw:ws.length=2^m):(l0g zs ws).length=2^m:=by unfold l0g; rw[hw,T07,F0d,E02]
theorem Y0s{zs ws:List Cq}{m S T:Nat}(hm:m<=6)(hz:zs.length=2^m)(hw:ws.length=2^m)(hS:okSz S zs)(hT:okSz T ws)(s1:1<=S)(t1:1<=T):okSz (64*(S+T+2)) (k0g zs ws):=by
 refine okSz.of λi hi => ?_
 rw[Y0f hw]at hi
 unfold k0g; rw[hw,T07]
 have:=C08 m zs ws S T hz hw (λi _=>hS.at s1 i) (λi _=>hT.at t1 i) i hi
 have h2:2^m<=2^6:=Nat.pow_le_pow_right (by omega) hm
 have:=Nat.mul_le_mul_right (S+T+2) h2
 omega
theorem Z0s{zs ws:List Cq}{m S T:Nat}(hm:m<=6)(hz:zs.length=2^m)(hw:ws.length=2^m)(hS:okSz S zs)(hT:okSz T ws)(s1:1<=S)(t1:1<=T):okSz (64*(S+T+2)+9) (l0g zs ws):=by
 refine okSz.of λi hi => ?_
 rw[Z0f hw]at hi
 unfold l0g; rw[hw,T07]
 have hl:=E02 m zs (W06 ws)
 have h2:2^m<=2^6:=Nat.pow_le_pow_right (by omega) hm
 refine U0i _ _ (by rw[hl]; omega) (λi hi => ?_) i (by rw[hl]; exact hi)
 rw[hl]at hi
 have hc:=T0j ws T (λi _=>hT.at t1 i)
 rw[hw]at hc
 have:=C08 m zs (W06 ws) S T hz (by rw[H0c,hw]) (λi _=>hS.at s1 i) hc i hi
 have:=Nat.mul_le_mul_right (S+T+2) h2
 omega
def F08(back:Bool)(zs ws:List Cq):List Cq:=if back=true then l0g zs ws else k0g zs ws
theorem G08{back:Bool}{zs ws:List Cq}{m:Nat}(hw:ws.length=2^m):(F08 back zs ws).length=2^m:=by
 unfold F08; split
 . exact Z0f hw
 . exact Y0f hw
theorem a0t{back:Bool}{zs ws:List Cq}{m S T:Nat}(hm:m<=6)(hz:zs.length=2^m)(hw:ws.length=2^m)(hS:okSz S zs)(hT:okSz T ws)(s1:1<=S)(t1:1<=T):okSz (64*(S+T+2)+9) (F08 back zs ws):=by
 unfold F08; split
 . exact Z0s hm hz hw hS hT s1 t1
 . exact λz hz'=>Nat.le_trans (Y0s hm hz hw hS hT s1 t1 z hz') (by omega)
theorem F0l{n:Nat}(h:lenB n=true):∃m,m<=6/\n=2^m:=by
 have hmem:n∈[1,2,4,8,16,32,64]:=by unfold lenB at h; exact List.contains_iff_mem.1 h
 simp only[List.mem_cons,List.not_mem_nil,or_false]at hmem
 rcases hmem with h|h|h|h|h|h|h
 . exact⟨0,by omega,h⟩
 . exact⟨1,by omega,h⟩
 . exact⟨2,by omega,h⟩
 . exact⟨3,by omega,h⟩
 . exact⟨4,by omega,h⟩
 . exact⟨5,by omega,h⟩
 . exact⟨6,by omega,h⟩
def P05(rows:List (List Cq))(ws vs:List Cq):Bool:=lenB ws.length&&(lenB vs.length&&(decide (K01 rows=ws.length)&&decide (rows.length=vs.length)))
def m0g(rows:List (List Cq))(ws vs:List Cq):Int:=if P05 rows ws vs=true then 0 else 4
def S0e(back:Bool)(rows:List (List Cq))(ws vs:List Cq):List (List Cq) :=
 X0d Cq.zero ((X0d Cq.zero (rows.map λrow=>F08 back row ws)).map λrow=>F08 back row vs)
def f0k(back:Bool)(rows:List (List Cq))(ws vs:List Cq):List (List Cq):=if P05 rows ws vs=true then S0e back rows ws vs else []
def H08(S:Nat)(rows:List (List Cq)):Prop:=∀row∈rows,okSz S row
theorem g0k{S:Nat}{rows:List (List Cq)}(h:H08 S rows)(h1:1<=S):H08 S (X0d Cq.zero rows):=by
 intro row hr z hz
 unfold X0d matL at hr
 obtain⟨j,_,rfl⟩:=List.mem_map.1 hr
 unfold rowL at hz
 obtain⟨i,hi,rfl⟩:=List.mem_map.1 hz
 have hi:i<rows.length:=by simpa using hi
 exact(h _ (List.mem_of_getElem? (P07 hi []))).at h1 j
theorem b0t{rows:List (List Cq)}{f:List Cq->List Cq}{n:Nat}(h:∀row∈rows,(f row).length=n):Rect (rows.map f)/\(0<rows.length->K01 (rows.map f)=n):=by
 cases rows with
 | nil=>exact⟨λrow hr=>by simp at hr,λh=>by simp at h⟩
 | cons a l =>
   have e:K01 ((a::l).map f)=n:=by simpa [K01]using h a (by simp)
   refine⟨λrow hr => ?_,λ_=>e⟩
   rw[e]
   obtain⟨r,hr2,rfl⟩:=List.mem_map.1 hr
   exact h r hr2
structure Mid (rows:List (List Cq)) (n m:Nat):Prop where
 rect:Rect rows
 len:rows.length=2^n
 cols:K01 rows=2^m
theorem Mid.row{rows:List (List Cq)}{n m:Nat}(h:Mid rows n m):∀row∈rows,row.length=2^m:=λrow hr=>by rw[h.rect row hr,h.cols]
theorem Mid.map{rows:List (List Cq)}{n m:Nat}(h:Mid rows n m)(back:Bool){ws:List Cq}(hw:ws.length=2^m):Mid (rows.map λrow=>F08 back row ws) n m:=by
 obtain⟨h1,h2⟩:=b0t (rows:=rows) (f:=λrow=>F08 back row ws) (n:=2^m) λrow _=>G08 hw
 exact⟨h1,by rw[List.length_map,h.len],h2 (by rw[h.len]; exact Nat.pow_pos (by omega))⟩
theorem Mid.turn{rows:List (List Cq)}{n m:Nat}(h:Mid rows n m):Mid (X0d Cq.zero rows) m n :=
 ⟨A0p _ _,by rw[Q0f,h.cols],by rw[B0p _ (by rw[h.cols]; exact Nat.pow_pos (by omega)),h.len]⟩
theorem c0j{rows:List (List Cq)}{ws vs:List Cq}(h:P05 rows ws vs=true)(hr:Rect rows):∃n m,n<=6/\m<=6/\ws.length=2^m/\vs.length=2^n/\Mid rows n m:=by
 unfold P05 at h
 simp only[Bool.and_eq_true,decide_eq_true_eq]at h
 obtain⟨h1,h2,h3,h4⟩:=h
 obtain⟨m,hm,e1⟩:=F0l h1
 obtain⟨n,hn,e2⟩:=F0l h2
 exact⟨n,m,hn,hm,e1,e2,hr,by rw[h4,e2],by rw[h3,e1]⟩
theorem B0r{rows:List (List Cq)}{n m S T:Nat}(h:Mid rows n m)(hm:m<=6)(back:Bool){ws:List Cq}(hw:ws.length=2^m)(hS:H08 S rows)(hT:okSz T ws)(s1:1<=S)(t1:1<=T) :
 H08 (64*(S+T+2)+9) (rows.map λrow=>F08 back row ws):=by
 intro row hr
 obtain⟨r,hr2,rfl⟩:=List.mem_map.1 hr
 exact a0t hm (h.row r hr2) hw (hS r hr2) hT s1 t1
theorem C0r{rows:List (List Cq)}{n m:Nat}(h:Mid rows n m)(back:Bool){ws vs:List Cq}(hw:ws.length=2^m)(hv:vs.length=2^n):Mid (S0e back rows ws vs) n m:=(((h.map back hw).turn).map back hv).turn
theorem c0t{rows:List (List Cq)}{n m S T:Nat}(h:Mid rows n m)(hn:n<=6)(hm:m<=6)(back:Bool){ws vs:List Cq}(hw:ws.length=2^m)(hv:vs.length=2^n)(hS:H08 S rows)(hT:okSz T ws)(hT2:okSz T vs)(s1:1<=S)(t1:1<=T) :
 H08 (64*(64*(S+T+2)+9+T+2)+9) (S0e back rows ws vs):=by
 have a1:=g0k (B0r h hm back hw hS hT s1 t1) (by omega)
 exact g0k (B0r ((h.map back hw).turn) hn back hv a1 hT2 (by omega) t1) (by omega)
theorem z0u{V:View}{p w:Sl}{m:Nat}{zs ws:List Cq}(S T:Nat)(hm:m<=6)(hz:zs.length=2^m)(hw:ws.length=2^m)(hp:b02 V p zs)(hq:b02 V w ws)(hS:okSz S zs)(hT:okSz T ws)(s1:1<=S)(t1:1<=T)
 (hsz:64*(S+T+2)<=2^39):a00 Tryz.prog L05 #[p.v,w.v] V λv V'=>∃r:Sl,v = .tuple #[r.v,.int .i64 0]/\b02 V' r (F08 false zs ws):=by
 have h2:2^m<=2^6:=Nat.pow_le_pow_right (by omega) hm
 have h3:=Nat.mul_le_mul_right (S+T+2) h2
 refine(b0e S T hm hz hw hp hq (λi _=>hS.at s1 i) (λi _=>hT.at t1 i) (by omega)).mono λv V1 _ ⟨r,hv,hr⟩=>⟨r,hv,?_⟩
 unfold F08 k0g; rw[hw,T07]; exact hr
theorem X0m{V:View}{p w:Sl}{m:Nat}{zs ws:List Cq}(S T:Nat)(hm:m<=6)(hz:zs.length=2^m)(hw:ws.length=2^m)(hp:b02 V p zs)(hq:b02 V w ws)(hS:okSz S zs)(hT:okSz T ws)(s1:1<=S)(t1:1<=T)
 (hsz:64*(S+T+2)<=2^39):a00 Tryz.prog H04 #[p.v,w.v] V λv V'=>∃r:Sl,v = .tuple #[r.v,.int .i64 0]/\b02 V' r (F08 true zs ws):=by
 refine(e0k S T hm hz hw hp hq (λi _=>hS.at s1 i) (λi _=>hT.at t1 i) hsz).mono λv V1 _ ⟨r,hv,hr⟩=>⟨r,hv,?_⟩
 unfold F08 l0g; rw[hw,T07]; exact hr
def tfn(back:Bool):FuncId:=if back=true then H04 else L05
theorem I0p{V:View}{s w:Sl}{pf pw:Option Addr}{m:Nat}{zs ws:List Cq}(back:Bool)(S T:Nat)(hf:V.load pf=some (.func (.func (tfn back)) #[] #[]))(hl:V.load pw=some w.v)(hm:m<=6)(hz:zs.length=2^m)(hw:ws.length=2^m)(hp:b02 V s zs)(hq:b02 V w ws)
 (hS:okSz S zs) (hT:okSz T ws) (s1:1<=S) (t1:1<=T) (hsz:64*(S+T+2)<=2^39) :
 a00 Tryz.prog O01 #[s.v,.pointer pf,.pointer pw] V λv V'=>∃r:Sl,v=r.v/\b02 V' r (F08 back zs ws):=by
 cases back with
 | true=>exact c04 s pf pw V _ ⟨⟨⟩,hf,w,hl,(X0m S T hm hz hw hp hq hS hT s1 t1 hsz).mono λv V1 _ ⟨r,hv,hr⟩=>⟨r,0,hv,r,rfl,hr⟩⟩
 | false=>exact P04 s pf pw V _ ⟨⟨⟩,hf,w,hl,(z0u S T hm hz hw hp hq hS hT s1 t1 hsz).mono λv V1 _ ⟨r,hv,hr⟩=>⟨r,0,hv,r,rfl,hr⟩⟩
theorem T0e{V:View}{g:k00}{f:Fn2}{w:Sl}{m:Nat}{rows:List (List Cq)}{ws:List Cq}(back:Bool)(S T:Nat)(h:K00 5 numC V g.rows rows)(hn:rows.length<=2^20)(hf:V.load f.p0=some (.func (.func (tfn back)) #[] #[]))(hl:V.load f.p1=some w.v)
 (hm:m<=6) (hz:∀row∈rows,row.length=2^m) (hw:ws.length=2^m) (hq:b02 V w ws) (hS:∀row∈rows,okSz S row) (hT:okSz T ws) (s1:1<=S) (t1:1<=T) (hsz:64*(S+T+2)<=2^39) :
 a00 Tryz.prog o05 #[g.val,f.val O01] V λv V'=>∃r:k00,v=r.val/\K00 5 numC V' r.rows (rows.map λrow=>F08 back row ws):=by
 have hgl:g.rows.len=rows.length:=h.len
 refine Q09 g f V _
  (λ_ x V'=>∃(t:Nat) (l:List Value),x.t11=t/\t<=rows.length/\s03 1 x.o5_0l x.o5_0c x.o21 l/\x.o5_0l=t/\M01 1 (λV x row=>∃s:Sl,x=[s.v]/\A00 5 numC V s row) V' l ((rows.take t).map λrow=>F08 back row ws))
  (λ_ x _=>rows.length-x.t11.toNat) ⟨⟨0,[],rfl,by omega,s03.nil,rfl,rfl⟩,?_⟩
 rintro⟨t11,o4,k,c,o⟩ V1 l1 ⟨t,l,et,ht,hL,ek,hC⟩
 dsimp only at et hL ek hC ⊢
 subst et; subst ek
 rw[hgl]
 refine⟨λhlt => ?_,λhge => ?_⟩
 . have hk:k<rows.length:=by simp at hlt; omega
   have ek:=P07 hk []
   have hmem:=List.mem_of_getElem? ek
   obtain⟨g1,s,h1,h2⟩:=(K00.le numC.le l1 h).row (t:=(k:Int)) (by omega) (row:=rows.getD k []) (by rw[Int.toNat_natCast]; exact ek)
   rw[hgl]at g1
   have tk:(rows.take (k+1)).map (λrow=>F08 back row ws)=(rows.take k).map (λrow=>F08 back row ws)++[F08 back (rows.getD k []) ws]:=by rw[List.take_add_one,ek]; simp
   generalize rows.getD k []=row at *
   refine⟨g1,s,h1,(I0p back S T (o03 l1 hf) (o03 l1 hl) hm (hz _ hmem) hw h2 (hq.le l1) (hS _ hmem) hT s1 t1 hsz).mono λv V2 l2 ⟨r1,hv,hr⟩=>⟨r1,hv,λb1 V3 l3 _ hb1 => ?_⟩⟩
   have hnew:V3.has (some (Addr.mk b1 0 none)) [r1.v]:=F04 (cs:=[r1.v]) (j:=0) hb1 (λi v hv=>by rw[Nat.zero_add]; exact hv) rfl
   refine⟨l,_,hL,hnew,rfl,by intro v hv; simp at hv; subst hv; rfl,by unfold maxLen; omega,by omega,λc1 l3' hl3 => ?_⟩
   rw[i64w (by omega) (by omega)]
   have L23:=View.le_trans l2 l3
   refine⟨⟨k+1,_,by omega,by omega,hl3,rfl,?_⟩,by omega⟩
   rw[tk]
   exact(hC.imp λ_ _ ⟨s,e,hs⟩=>⟨s,e,A00.le (numC.le L23) L23 hs⟩).append (M01.one rfl ⟨_,rfl,b02.le l3 hr⟩)
 . have e:k=rows.length:=by simp at hge; omega
   subst e
   rw[List.take_length]at hC
   intro b2 V4 l4 hb2
   exact⟨_,rfl,o06 hL hb2 (hC.imp λ_ _ ⟨s,e,hs⟩=>⟨s,e,A00.le (numC.le l4) l4 hs⟩) (by rw[List.length_map])⟩
theorem d0j{V:View}{w:Sl}{pf:Option Addr}{ws:List Cq}(hq:b02 V w ws) :
 a00 Tryz.prog d05 #[w.v,.pointer pf] V λv V'=>∃r:Fn2,v=r.val O01/\r.p0=pf/\V'.load r.p1=some w.v:=by
 refine n09 w pf V _ λb1 V1 l1 hb1=>⟨_,rfl,rfl,?_⟩
 have:=t07 (j:=0) hb1
 simpa [Addr.add]using this
theorem G0l{V:View}{g:k00}{w v:Sl}{rows:List (List Cq)}{ws vs:List Cq}(back:Bool)(S T:Nat)(h:K00 5 numC V g.rows rows)(hr:Rect rows)(hq:b02 V w ws)(hv:b02 V v vs)
 (hS:H08 S rows) (hT:okSz T ws) (hT2:okSz T vs) (s1:1<=S) (t1:1<=T) (hsz:64*(64*(S+T+2)+9+T+2)<=2^39) :
 a00 Tryz.prog L0a #[g.val,w.v,v.v,.func (.func (tfn back)) #[] #[]] V λu V'=>∃r:k00,u = .tuple #[r.val,.int .i64 (m0g rows ws vs)]/\K00 5 numC V' r.rows (f0k back rows ws vs):=by
 have hwl:=hq.len
 have hvl:=hv.len
 have bad:∀V':View,P05 rows ws vs=false->∃r:k00,Value.tuple #[(k00.mk (Sl.mk none 0 0)).val,.int .i64 4] = .tuple #[r.val,.int .i64 (m0g rows ws vs)]/\K00 5 numC V' r.rows (f0k back rows ws vs):=λV' e=>by
  refine⟨⟨⟨none,0,0⟩⟩,?_,?_⟩
  . unfold m0g; rw[e]; rfl
  . unfold f0k; rw[e]; exact A00.nil
 have tail:P05 rows ws vs=true->∀(V3:View),V.le V3->∀(b1:Nat) (V4:View),V3.le V4->V4 b1=some (List.toArray ([.func (.func (tfn back)) #[] #[]])) ->
  a00 Tryz.prog d05 #[w.v,.pointer (some (Addr.mk b1 0 none))] V4 λu V5=>∃r5:Fn2,u=r5.val O01 /\
  a00 Tryz.prog o05 #[g.val,r5.val O01] V5 λu V6=>∃r6:k00,u=r6.val /\
  a00 Tryz.prog t03 #[r6.val] V6 λu V7=>∃r7:k00,u=r7.val /\
  a00 Tryz.prog d05 #[v.v,.pointer (some (Addr.mk b1 0 none))] V7 λu V8=>∃r8:Fn2,u=r8.val O01 /\
  a00 Tryz.prog o05 #[r7.val,r8.val O01] V8 λu V9=>∃r9:k00,u=r9.val /\
  a00 Tryz.prog t03 #[r9.val] V9 λu V10=>∃r10:k00,u=r10.val /\
  ∃r:k00,Value.tuple #[r10.val,.int .i64 0] = .tuple #[r.val,.int .i64 (m0g rows ws vs)]/\K00 5 numC V10 r.rows (f0k back rows ws vs):=λok V3 l3 b1 V4 l4 hb1=>by
  obtain⟨n,m,hn,hm,ew,ev,M⟩:=c0j ok hr
  have L4:=View.le_trans l3 l4
  have p6:2^n<=2^6:=Nat.pow_le_pow_right (by omega) hn
  have q6:2^m<=2^6:=Nat.pow_le_pow_right (by omega) hm
  have hf:V4.load (some (Addr.mk b1 0 none))=some (.func (.func (tfn back)) #[] #[]):=by
   have:=t07 (j:=0) hb1
   simpa [Addr.add]using this
  refine(d0j (hq.le L4)).mono λu V5 l5 ⟨r5,hu,e1,e2⟩=>⟨r5,hu,?_⟩
  have L5:=View.le_trans L4 l5
  refine(T0e (w:=w) back S T (K00.le numC.le L5 h) (by rw[M.len]; omega) (by rw[e1]; exact o03 l5 hf) e2 hm M.row ew (hq.le L5) hS hT s1 t1 (by omega)).mono λu V6 l6 ⟨r6,hu,h6⟩=>⟨r6,hu,?_⟩
  have M1:=M.map back ew
  have z1:=B0r M hm back ew hS hT s1 t1
  refine(b0a h6 M1.rect (by rw[M1.len]; omega) (by rw[M1.cols]; omega) Cq.zero).mono λu V7 l7 ⟨r7,hu,h7⟩=>⟨r7,hu,?_⟩
  have M2:=M1.turn
  have z2:=g0k z1 (by omega)
  have L7:=View.le_trans L5 (View.le_trans l6 l7)
  refine(d0j (hv.le L7)).mono λu V8 l8 ⟨r8,hu,e3,e4⟩=>⟨r8,hu,?_⟩
  have L8:=View.le_trans L7 l8
  refine(T0e (w:=v) back _ T (K00.le numC.le l8 h7) (by rw[M2.len]; omega) (by rw[e3]; exact o03 (View.le_trans l5 (View.le_trans l6 (View.le_trans l7 l8))) hf) e4 hn M2.row ev (hv.le L8) z2 hT2 (by omega) t1 (by omega)).mono λu V9 l9 ⟨r9,hu,h9⟩=>⟨r9,hu,?_⟩
  have M3:=M2.map back ev
  refine(b0a h9 M3.rect (by rw[M3.len]; omega) (by rw[M3.cols]; omega) Cq.zero).mono λu V10 l10 ⟨r10,hu,h10⟩=>⟨r10,hu,r10,?_,?_⟩
  . unfold m0g; rw[ok]; rfl
  . unfold f0k; rw[if_pos ok]; exact h10
 have len:∀ {V':View} (n:Nat),a00 Tryz.prog y0a #[.int .i64 (n:Int)] V' λu _=>u = .bool (lenB n):=λ{V'} n=>(T06 (by omega)).mono λu _ _ hu=>by rw[hu,Int.toNat_natCast]
 have b1:lenB ws.length=false->P05 rows ws vs=false:=λe=>by unfold P05; rw[e]; rfl
 have b2:lenB vs.length=false->P05 rows ws vs=false:=λe=>by unfold P05; rw[e]; simp
 have b3:K01 rows≠ws.length->P05 rows ws vs=false:=λe=>by unfold P05; simp[e]
 have b4:rows.length≠vs.length->P05 rows ws vs=false:=λe=>by unfold P05; simp[e]
 cases back with
 | false =>
   refine g05 g w v ⟨⟩ V _ ((z02 h).mono λu V1 l1 hu=>⟨_,_,hu,?_⟩)
   rw[hwl,hvl]
   refine(len _).mono λu V2 l2 hu=>⟨_,hu,λc=>bad V2 (b1 (by simpa using c)),λc=>(len _).mono λu V3 l3 hu=>⟨_,hu,λc2=>bad V3 (b2 (by simpa using c2)),λc2=>⟨λc3=>bad V3 (b3 λe => ?_),λc3=>⟨λc4=>bad V3 (b4 λe => ?_),λc4 => ?_⟩⟩⟩⟩
   . rw[e]at c3; simp at c3
   . rw[e]at c4; simp at c4
   . refine tail ?_ V3 (View.le_trans l1 (View.le_trans l2 l3))
     unfold P05
     simp at c c2 c3 c4
     have c3:K01 rows=ws.length:=by omega
     have c4:rows.length=vs.length:=by omega
     rw[c,c2,decide_eq_true c3,decide_eq_true c4]; rfl
 | true =>
   refine Q04 g w v ⟨⟩ V _ ((z02 h).mono λu V1 l1 hu=>⟨_,_,hu,?_⟩)
   rw[hwl,hvl]
   refine(len _).mono λu V2 l2 hu=>⟨_,hu,λc=>bad V2 (b1 (by simpa using c)),λc=>(len _).mono λu V3 l3 hu=>⟨_,hu,λc2=>bad V3 (b2 (by simpa using c2)),λc2=>⟨λc3=>bad V3 (b3 λe => ?_),λc3=>⟨λc4=>bad V3 (b4 λe => ?_),λc4 => ?_⟩⟩⟩⟩
   . rw[e]at c3; simp at c3
   . rw[e]at c4; simp at c4
   . refine tail ?_ V3 (View.le_trans l1 (View.le_trans l2 l3))
     unfold P05
     simp at c c2 c3 c4
     have c3:K01 rows=ws.length:=by omega
     have c4:rows.length=vs.length:=by omega
     rw[c,c2,decide_eq_true c3,decide_eq_true c4]; rfl
theorem n0g{V:View}{g:k00}{w v:Sl}{rows:List (List Cq)}{ws vs:List Cq}(S T:Nat)(h:K00 5 numC V g.rows rows)(hr:Rect rows)(hq:b02 V w ws)(hv:b02 V v vs)
 (hS:H08 S rows) (hT:okSz T ws) (hT2:okSz T vs) (s1:1<=S) (t1:1<=T) (hsz:64*(64*(S+T+2)+9+T+2)<=2^39) :
 a00 Tryz.prog U07 #[g.val,w.v,v.v] V λu V'=>∃r:k00,u = .tuple #[r.val,.int .i64 (m0g rows ws vs)]/\K00 5 numC V' r.rows (f0k false rows ws vs) :=
 K07 g w v V _ ((G0l false S T h hr hq hv hS hT hT2 s1 t1 hsz).mono λu V1 _ ⟨r,hu,h1⟩=>⟨r,_,hu,r,rfl,h1⟩)
theorem i0k{V:View}{g:k00}{w v:Sl}{rows:List (List Cq)}{ws vs:List Cq}(S T:Nat)(h:K00 5 numC V g.rows rows)(hr:Rect rows)(hq:b02 V w ws)(hv:b02 V v vs)
 (hS:H08 S rows) (hT:okSz T ws) (hT2:okSz T vs) (s1:1<=S) (t1:1<=T) (hsz:64*(64*(S+T+2)+9+T+2)<=2^39) :
 a00 Tryz.prog S08 #[g.val,w.v,v.v] V λu V'=>∃r:k00,u = .tuple #[r.val,.int .i64 (m0g rows ws vs)]/\K00 5 numC V' r.rows (f0k true rows ws vs) :=
 q08 g w v V _ ((G0l true S T h hr hq hv hS hT hT2 s1 t1 hsz).mono λu V1 _ ⟨r,hu,h1⟩=>⟨r,_,hu,r,rfl,h1⟩)
theorem D0r{V:View}{p:Option Addr}{v:Value}(h:V.has p [v]):V.load p=some v:=by
 have:=h 0 v rfl
 cases p with
 | none=>exact this
 | some a=>simpa [Addr.add]using this
theorem U0p{P:Program}{f:FuncId}{args:Array Value}{m V:View}{K:Value->View->View->Prop}(h:m.apart V->o02 P f args m V K):o02 P f args m V K :=
 λw hw hm=>h hm.apart w hw hm
theorem H0l{V:View}{g:k00}{rows:List (List Bool)}{i j:Nat}(h:K00 1 Go.Vc.boolC V g.rows rows)(hr:Rect rows)(hi:i<rows.length)(hj:j<K01 rows) :
 a00 Tryz.prog K09 #[g.val,.int .i64 (i:Int),.int .i64 (j:Int)] V λv _=>v = .tuple #[.bool ((rows.getD i []).getD j false),.int .i64 0]:=by
 refine U08 g i j V _ ((I0d h).mono λv V1 l1 hv=>⟨_,_,hv,λc => ?_,λ_=>⟨λc2 => ?_,λ_=>⟨λc3 => ?_,λ_=>⟨λc4 => ?_,λ_ => ?_⟩⟩⟩⟩)
 . have:=of_decide_eq_true c; omega
 . have:=of_decide_eq_true c2; omega
 . have:=of_decide_eq_true c3; omega
 . have:=of_decide_eq_true c4; omega
 . have ek:rows[i]?=some (rows.getD i []):=P07 hi []
   obtain⟨g1,s,h1,h2⟩:=(K00.le Go.Vc.boolC.le l1 h).row (t:=(i:Int)) (by omega) (by rw[Int.toNat_natCast]; exact ek)
   have hrl:=H0e hr ek
   obtain⟨g2,x,hx,_,hh,_⟩:=A00.get h2 (t:=(j:Int)) (by omega) (z:=(rows.getD i []).getD j false) (by rw[Int.toNat_natCast]; exact P07 (by omega) false)
   exact⟨g1,s,h1,g2,_,D0r (by rw[show x=_ from hx]at hh; exact hh),rfl⟩
theorem E0r{V:View}{g:k00}{rows:List (List Bool)}{i j:Nat}(h:K00 1 Go.Vc.boolC V g.rows rows)(hr:Rect rows)(hi:i<rows.length)(hj:j<K01 rows) :
 a00 Tryz.prog m0f #[g.val,.int .i64 (i:Int),.int .i64 (j:Int)] V λv _=>v = .bool (atG false rows i j) :=
 y0e g i j V _ ((H0l h hr hi hj).mono λv _ _ hv=>⟨_,_,hv,rfl⟩)
theorem d0t{a b:NumV}(h:a.val.cells.toList=b.val.cells.toList):a=b:=by
 obtain⟨⟨n1,⟨a1,l1,c1⟩⟩,⟨n2,⟨a2,l2,c2⟩⟩,⟨a3,l3,c3⟩⟩:=a
 obtain⟨⟨m1,⟨b1,k1,d1⟩⟩,⟨m2,⟨b2,k2,d2⟩⟩,⟨b3,k3,d3⟩⟩:=b
 rw[e0h,e0h]at h
 simp[Sl.v]at h
 obtain⟨rfl,⟨rfl,rfl,rfl⟩,rfl,⟨rfl,rfl,rfl⟩,rfl,rfl,rfl⟩:=h
 rfl
theorem W0n{V:View}{g:k00}{rows:List (List Cq)}{i j:Nat}(h:K00 5 numC V g.rows rows)(hr:Rect rows)(hi:i<rows.length)(hj:j<K01 rows) :
 a00 Tryz.prog A0d #[g.val,.int .i64 (i:Int),.int .i64 (j:Int)] V λv V'=>∃r:NumV,v=r.val/\J01 V' r (atG Cq.zero rows i j):=by
 refine z0c g i j V _ ((w0h (i:=(i:Int)) (j:=(j:Int)) h hr Cq.zero).mono λv V1 _ ⟨r,e,hv,h1,_⟩=>⟨r,e,hv,r,rfl,?_⟩)
 obtain⟨_,y,e1,e2⟩:=h1 ⟨⟨by omega,by omega⟩,by omega,by omega⟩
 rw[Int.toNat_natCast,Int.toNat_natCast]at e2
 rw[d0t e1]; exact e2
theorem e0t{V:View}{g k:k00}{rows wts:List (List Cq)}(h:K00 5 numC V g.rows rows)(hk:K00 5 numC V k.rows wts) :
 a00 Tryz.prog Q08 #[g.val,k.val] V λv _=>v = .bool (decide (rows.length=wts.length/\K01 rows=K01 wts)):=by
 refine u08 g k V _ ((z02 h).mono λv V1 l1 hv=>⟨_,_,hv,(z02 (K00.le numC.le l1 hk)).mono λv V2 _ hv=>⟨_,_,hv,λc => ?_,λc => ?_⟩⟩)
 . have c:rows.length=wts.length:=by have:(rows.length:Int)=wts.length:=(by simpa using c); omega
   congr 1
   by_cases d:K01 rows=K01 wts
   . rw[decide_eq_true ⟨c,d⟩,d]; simp
   . rw[decide_eq_false (λx=>d x.2)]; simp; omega
 . have c:¬rows.length=wts.length:=λe=>by rw[e]at c; simp at c
   rw[decide_eq_false (λx=>c x.1)]
theorem f0t{V:View}{g k:k00}{rows:List (List Cq)}{wts:List (List Bool)}(h:K00 5 numC V g.rows rows)(hk:K00 1 Go.Vc.boolC V k.rows wts) :
 a00 Tryz.prog k0a #[g.val,k.val] V λv _=>v = .bool (decide (rows.length=wts.length/\K01 rows=K01 wts)):=by
 refine S09 g k V _ ((z02 h).mono λv V1 l1 hv=>⟨_,_,hv,(I0d (K00.le Go.Vc.boolC.le l1 hk)).mono λv V2 _ hv=>⟨_,_,hv,λc => ?_,λc => ?_⟩⟩)
 . have c:rows.length=wts.length:=by have:(rows.length:Int)=wts.length:=(by simpa using c); omega
   congr 1
   by_cases d:K01 rows=K01 wts
   . rw[decide_eq_true ⟨c,d⟩,d]; simp
   . rw[decide_eq_false (λx=>d x.2)]; simp; omega
 . have c:¬rows.length=wts.length:=λe=>by rw[e]at c; simp at c
   rw[decide_eq_false (λx=>c x.1)]
theorem y0b{α:Type}{n m:Nat}(A:Nat->Nat->α)(n1:1<=n)(n2:n<=64)(m1:1<=m)(m2:m<=64):g0h (matL n m A)=matL n m A:=by
 have hc:K01 (matL n m A)=m:=by
  obtain⟨row,e,hl⟩:=W0b (rows:=matL n m A) (by rw[x00]; omega)
  rw[U04 (by omega)]at e
  obtain rfl:=Option.some.inj e
  rw[<-hl,m00]
 unfold g0h
 rw[if_pos]
 unfold P06
 rw[x00,decide_eq_true n1,decide_eq_true n2,Bool.true_and,Bool.true_and,List.all_eq_true]
 intro row hr
 unfold matL at hr
 obtain⟨i,_,rfl⟩:=List.mem_map.1 hr
 unfold e09
 rw[hc,m00,decide_eq_true m1,decide_eq_true m2,decide_eq_true rfl]; rfl
theorem j0k{V m:View}{b0:Nat}{f:Fn5}{R C:Nat}(A:Nat->Nat->Cq)(bd:Nat->Nat->Int)(r1:1<=R)(r2:R<=64)(c1:1<=C)(c2:C<=64)(h0:m b0=some #[.int .i64 (bd 0 0)])(hb:∀i,bd i C=bd (i+1) 0)
 (hcl:∀(i k:Nat) (m' V':View),i<R->k<C->V.le V'->m' b0=some #[.int .i64 (bd i k)] ->
   o02 Tryz.prog G06 #[.int .i64 (i:Int),.int .i64 (k:Int),.pointer f.p0,.pointer f.p1,.pointer f.p2,.pointer f.p3,.pointer f.p4] m' V' λv m2 V2=>∃r:NumV,v=r.val/\J01 V2 r (A i k)/\m2 b0=some #[.int .i64 (bd i (k+1))]/\∀b,b≠b0->m2 b=m' b) :
 o02 Tryz.prog B0d #[.int .i64 (R:Int),.int .i64 (C:Int),f.val G06] m V λv m' V'=>∃g:k00,v=g.val/\K00 5 numC (e07 m' V') g.rows (matL R C A)/\m'.apart V'/\m' b0=some #[.int .i64 (bd R 0)]:=by
 refine u06 m R C f V _
  (λ_ x V'=>∃t:Nat,x.t16=t/\t<=R/\x.o13.length=R/\w03 5 numC (x.o0.del b0) V' x.o13 R (λi=>if i<t then rowL C (A i)else [])/\x.o0 b0=some #[.int .i64 (bd t 0)]) (λ_ x _=>R-x.t16.toNat)
  (λc x V'=>∃t k:Nat,c.t16=t/\c.t8=t/\t<R/\x.t20=k/\k<=C/\x.o13.length=R/\w03 5 numC (x.o0.del b0) V' x.o13 R (λi=>if i<t then rowL C (A i)else if i=t then rowL k (A t)else [])/\x.o0 b0=some #[.int .i64 (bd t k)]) (λ_ x _=>C-x.t20.toNat) ?_
 rw[Int.toNat_natCast]
 refine⟨⟨by omega,by omega,by omega,by omega⟩,⟨0,rfl,by omega,by simp,?_,h0⟩,?_⟩
 . rw[z0p]; exact(j0n (m.del b0) V R).congr λi _=>by rw[if_neg (by omega)]
 rintro⟨t16,o0,o6,o13⟩ V1 l1 ⟨t,et,ht,hol,hR,hb0⟩
 dsimp only at et hol hR hb0 ⊢
 subst et
 refine⟨λhlt=>⟨⟨t,0,rfl,rfl,by have:=of_decide_eq_true hlt; omega,rfl,by omega,hol,hR.congr λi hi => ?_,hb0⟩,?_⟩,λhge => ?_⟩
 . by_cases e:i<t
   . rw[if_pos e,if_pos e]
   . rw[if_neg e,if_neg e]
     split<;>rfl
 . rintro⟨t20,o0',o13'⟩ V2 l2 ⟨t',k,et,_,htR,ek,hk,hol',hR',hb0'⟩
   dsimp only at et ek hol' hR' hb0' ⊢
   obtain rfl:t'=t:=by omega
   subst ek
   refine⟨λhlt2 => ?_,λhge2 => ?_⟩
   . have hkC:k<C:=by have:=of_decide_eq_true hlt2; omega
     obtain⟨s3,e3,_⟩:=hR'.row (i:=t') htR
     refine⟨⟨by omega,by omega⟩,s3,by rw[Int.toNat_natCast,Nat.mul_one,Nat.zero_add]; exact e3,(hcl t' k o0' V2 htR hkC (View.le_trans l1 l2) hb0').mono λv m1 V3 l3 _ ⟨r,hv,hr,hm1,hm2⟩=>⟨r,hv,λb1 V4 l4 _ hb1 => ?_⟩⟩
     have hR3:w03 5 numC (m1.del b0) V4 o13' R (λi=>if i<t' then rowL C (A i)else if i=t' then rowL k (A t')else []):=(hR'.le numC.le (View.le_trans l3 l4)).redel hm2
     obtain⟨s3',e3',q1,q2,q3,⟨o3,q4,q5,q6⟩,q7⟩:=hR3.row (i:=t') htR
     have es:s3'=s3:=u0d (Option.some.inj (e3'.symm.trans e3))
     subst es
     rw[if_neg (by omega),if_pos rfl]at q1 q6
     rw[m00]at q1
     have hnew:V4.has (some (Addr.mk b1 0 none)) r.val.cells.toList:=F04 (cs:=r.val.cells.toList) (j:=0) hb1 (λi v hv=>by rw[Nat.zero_add]; exact hv) rfl
     have hrc:numC V4 r.val.cells.toList (A t' k):=⟨r,rfl,hr.le l4⟩
     have q4':has2 m1 V4 s3'.a o3:=q4.imp (λh j v hj=>by
      have:=h j v hj
      unfold View.load at this ⊢
      cases e:s3'.a with
      | none=>rw[e]at this; simp at this
      | some ad =>
        rw[e]at this
        simp only[Option.map_some]at this ⊢
        split at this
        . simp at this
        . rename_i hs
          rw[if_neg hs]
          cases hmb:(m1.del b0) (ad.add j).block with
          | none=>rw[hmb]at this; simp at this
          | some cs=>rw[(z09 hmb).2]; rw[hmb]at this; exact this) id
     refine⟨o3,_,⟨q2,q3⟩,q4',q5,.inr hnew,rfl,oneN hrc,by unfold maxLen; omega,by omega,λ_ h2 => ?_,λa1 c1 m2 ha=>⟨⟨by omega,by omega⟩,by rw[hol',Int.toNat_natCast]; omega,?_⟩⟩
     . obtain⟨b,off,cs,g1,g2,g3⟩:=q7 1 (by omega) h2
       exact⟨b,off,cs,g1,(z09 g2).2,g3⟩
     have hm0:m1 b0≠none:=by rw[hm1]; simp
     obtain⟨k1,k2⟩:=hR3.appX hm0 (i:=t') htR e3 (z:=A t' k) rfl hrc (o':=o3) (by rw[if_neg (by omega),if_pos rfl]; exact q6) ha
     rw[i64w (by omega) (by omega)]
     refine⟨⟨t',k+1,rfl,rfl,htR,by omega,by omega,by simp[hol'],?_,by rw[k2,hm1]⟩,by omega⟩
     have e1:(0+Int.toNat (t':Int)*1)=t':=by omega
     rw[e1]
     refine k1.congr λi hi => ?_
     by_cases e:i=t'
     . subst e
       simp only[if_true,Nat.lt_irrefl,if_false]
       exact Y09 _ _
     . simp only[if_neg e]
   . have e:k=C:=by have:=of_decide_eq_false hge2; omega
     subst e
     rw[i64w (by omega) (by omega)]
     refine⟨⟨t'+1,by omega,by omega,hol',hR'.congr λi hi => ?_,by rw[hb0',hb]⟩,by omega⟩
     by_cases e:i<t'
     . rw[if_pos e,if_pos (by omega)]
     . rw[if_neg e]
       by_cases e2:i=t'
       . subst e2; rw[if_pos rfl,if_pos (by omega)]
       . rw[if_neg e2,if_neg (by omega)]
 . have e:t=R:=by have:=of_decide_eq_false hge; omega
   subst e
   intro b3 hb3 hb3'
   have hR2:w03 5 numC o0 V1 o13 t (λi=>rowL C (A i)):=(hR.congr λi hi=>by rw[if_pos hi]).undel
   refine U0p λap => ?_
   refine i0n (Q05 ((hR2.mat hol hb3).known (numC.le (z0b ap)) (λb cs g=>y07 g))) λv V2' V3 l3 e ap3 ⟨g,hv,hg⟩ => ?_
   subst e
   rw[y0b A r1 r2 c1 c2]at hg
   have hge0:c0i (matL t C A)=0:=by
    have:=y0b A r1 r2 c1 c2
    unfold c0i
    unfold g0h at this
    split at this
    . rename_i h; rw[if_pos h]
    . have:=congrArg List.length this; rw[x00]at this; simp at this; omega
   refine⟨g,_,hv,g,rfl,hg,ap3,?_⟩
   have:b0≠b3:=λe=>by rw[<-e,hb0]at hb3; simp at hb3
   unfold i00; rw[if_neg this]; exact hb0
def chg(b:Bool)(z w:Cq):Cq:=if b=true then(if w=Cq.zero then Cq.zero else z.div w)else z*w
def chE(b:Bool)(w:Cq):Int:=if b=true/\w=Cq.zero then 3 else 0
def chf:Bool->FuncId
 | true=>N0a
 | false=>H0b
theorem g0t(b:Bool){V:View}{x y:NumV}{z w:Cq}(hx:J01 V x z)(hy:J01 V y w)(hz:z.sz<=2^36)(hw:w.sz<=2^36) :
 a00 Tryz.prog (chf b) #[x.val,y.val] V λv V'=>∃r:NumV,v = .tuple #[r.val,.int .i64 (chE b w)]/\J01 V' r (chg b z w):=by
 cases b with
 | false=>exact o0b x y V _ ((n03 hx hy (by omega) (by omega)).mono λv V1 _ ⟨r,hv,hr⟩=>⟨r,hv,r,rfl,hr⟩)
 | true =>
   refine q0a x y V _ ((Q0c hx hy hz hw).mono λv V1 _ ⟨r,e,hv,h1,h2⟩=>⟨r,e,hv,r,?_,?_⟩)
   . by_cases c:w=Cq.zero
     . rw[(h1 c).1]; unfold chE; rw[if_pos ⟨rfl,c⟩]
     . rw[(h2 c).1]; unfold chE; rw[if_neg (λx=>c x.2)]
   . by_cases c:w=Cq.zero
     . unfold chg; rw[if_pos rfl,if_pos c]; exact(h1 c).2
     . unfold chg; rw[if_pos rfl,if_neg c]; exact(h2 c).2
def ledC(b:Bool)(S W:List (List Cq))(K:List (List Bool))(i k:Nat):Cq:=if atG false K i k=true then chg b (atG Cq.zero S i k) (atG Cq.zero W i k)else Cq.zero
theorem ldv{V:View}{q:Nat}{v:Value}(h:V q=some #[v]):V.load (some (Addr.mk q 0 none))=some v:=by
 unfold View.load; simp[h]
theorem H08.at{S:Nat}{rows:List (List Cq)}(h:H08 S rows)(h1:1<=S)(i k:Nat):(atG Cq.zero rows i k).sz<=S:=by
 unfold atG
 rcases Nat.lt_or_ge i rows.length with g|g
 . exact(h _ (List.mem_of_getElem? (P07 g []))).at h1 k
 . have:rows.getD i []=[]:=by simp[List.getD,List.getElem?_eq_none g]
   rw[this]; exact Nat.le_trans D09 h1
theorem F0r(b:Bool){V m:View}{s k w:k00}{q2 q3 q4 q5 b0:Nat}{S W:List (List Cq)}{K:List (List Bool)}{i j:Nat}{e:Int}{Z:Nat}
 (g2:V q2=some #[s.rows.v]) (g3:V q3=some #[k.rows.v]) (g4:V q4=some #[.func (.func (chf b)) #[] #[]]) (g5:V q5=some #[w.rows.v])
 (hs:K00 5 numC V s.rows S) (rs:Rect S) (hk:K00 1 Go.Vc.boolC V k.rows K) (rk:Rect K) (hw:K00 5 numC V w.rows W) (rw':Rect W)
 (hi:i<S.length) (hj:j<K01 S) (lk:K.length=S.length/\K01 K=K01 S) (lw:W.length=S.length/\K01 W=K01 S) (zs:H08 Z S) (zw:H08 Z W) (z1:1<=Z) (hZ:Z<=2^36)
 (h0:m b0=some #[.int .i64 e]) :
 o02 Tryz.prog G06 #[.int .i64 (i:Int),.int .i64 (j:Int),.pointer (some (Addr.mk q2 0 none)),.pointer (some (Addr.mk q3 0 none)),.pointer (some (Addr.mk q4 0 none)),.pointer (some (Addr.mk q5 0 none)),.pointer (some (Addr.mk b0 0 none))] m V λv m2 V2 =>
  ∃r:NumV,v=r.val/\J01 V2 r (ledC b S W K i j)/\m2 b0=some #[.int .i64 (if e=0 then(if atG false K i j=true then chE b (atG Cq.zero W i j)else 0)else e)]/\∀x,x≠b0->m2 x=m x:=by
 have key:=@g0t b
 cases b
 case' false=>refine X05 m i j _ _ _ _ _ V _ ?_
 case' true=>refine M05 m i j _ _ _ _ _ V _ ?_
 all_goals
  refine⟨s,a0a (l:=[s.rows.v]) g2,rfl,g08 (W0n hs rs hi hj) λv V1 l1 _ ⟨r1,hv,h1⟩=>⟨r1,hv,?_⟩⟩
  refine⟨k,a0a (l:=[k.rows.v]) (l1 _ _ g3),rfl,g08 (E0r (K00.le Go.Vc.boolC.le l1 hk) rk (by omega) (by omega)) λv V2 l2 _ hv=>⟨_,hv,λc => ?_,λc => ?_⟩⟩
  . have c:¬atG false K i j=true:=by simpa using c
    refine g08 (S06 (n:=0) (by decide) (by decide)) λv V3 l3 _ ⟨r3,hv,h3⟩=>⟨r3,hv,?_⟩
    refine g08 (p0h h3) λv V4 l4 _ ⟨r4,hv,h4⟩=>⟨r4,hv,r4,rfl,?_,?_,λx _=>rfl⟩
    . unfold ledC; rw[if_neg c]; exact h4
    . rw[h0,if_neg c]
      by_cases d:e=0
      . rw[if_pos d,d]
      . rw[if_neg d]
  . have c:atG false K i j=true:=by simpa using c
    refine⟨⟨⟩,ldv (View.le_trans l1 l2 _ _ g4),w,a0a (l:=[w.rows.v]) (View.le_trans l1 l2 _ _ g5),rfl,?_⟩
    refine g08 (W0n (K00.le numC.le (View.le_trans l1 l2) hw) rw' (by omega) (by omega)) λv V5 l5 _ ⟨r5,hv,h5⟩=>⟨r5,hv,?_⟩
    refine g08 (key (h1.le (View.le_trans l2 l5)) h5 (Nat.le_trans (zs.at z1 i j) hZ) (Nat.le_trans (zw.at z1 i j) hZ)) λv V6 l6 _ ⟨r6,hv,h6⟩=>⟨r6,_,hv,e,.inl (ldv h0),λd => ?_,λd => ?_⟩
    . have d:e=0:=by simpa using d
      refine⟨b0,0,[.int .i64 e],rfl,h0,Nat.le_refl 1,r6,rfl,?_,?_,λx hx => ?_⟩
      . unfold ledC; rw[if_pos c]; exact h6
      . rw[if_pos d,if_pos c]; unfold i00; rw[if_pos rfl]; rfl
      . unfold i00; rw[if_neg hx]
    . have d:¬e=0:=by simpa using d
      refine⟨r6,rfl,?_,?_,λx hx=>rfl⟩
      . unfold ledC; rw[if_pos c]; exact h6
      . rw[if_neg d]; exact h0
def badC(b:Bool)(W:List (List Cq))(K:List (List Bool))(i k:Nat):Bool:=atG false K i k&&decide (chE b (atG Cq.zero W i k)≠0)
def f0i(b:Bool)(W:List (List Cq))(K:List (List Bool))(C i k:Nat):Bool:=((List.range i).any λi'=>(List.range C).any (badC b W K i'))||(List.range k).any (badC b W K i)
theorem J0p(b:Bool)(W:List (List Cq))(K:List (List Bool))(C i:Nat):f0i b W K C i C=f0i b W K C (i+1) 0:=by
 unfold f0i
 rw[List.range_succ,List.any_append]
 simp
theorem K0p(b:Bool)(W:List (List Cq))(K:List (List Bool))(C i k:Nat):f0i b W K C i (k+1)=(f0i b W K C i k||badC b W K i k):=by
 unfold f0i
 rw[List.range_succ (n:=k),List.any_append,<-Bool.or_assoc]
 simp
theorem P0v(b:Bool)(w:Cq):chE b w=0\/chE b w=3:=by unfold chE; split<;>simp
def z0h(rows wts:List (List Cq))(K:List (List Bool)):Prop:=(rows.length=wts.length/\K01 rows=K01 wts)/\rows.length=K.length/\K01 rows=K01 K
instance (rows wts:List (List Cq)) (K:List (List Bool)):Decidable (z0h rows wts K):=by unfold z0h; infer_instance
def ledE(b:Bool)(rows:List (List Cq))(ws vs:List Cq)(wts:List (List Cq))(K:List (List Bool)):Int :=
 if P05 rows ws vs=true/\z0h rows wts K then(if f0i b wts K (K01 rows) rows.length 0=true then 3 else 0)else 4
def ledF(b:Bool)(rows:List (List Cq))(ws vs:List Cq)(wts:List (List Cq))(K:List (List Bool)):List (List Cq) :=
 S0e true (matL rows.length (K01 rows) (ledC b (S0e false rows ws vs) wts K)) ws vs
def ledR(b:Bool)(rows:List (List Cq))(ws vs:List Cq)(wts:List (List Cq))(K:List (List Bool)):List (List Cq):=if ledE b rows ws vs wts K=0 then ledF b rows ws vs wts K else []
theorem B04{α:Type}{n m:Nat}(A:Nat->Nat->α)(h:1<=n):K01 (matL n m A)=m:=by
 obtain⟨row,e,hl⟩:=W0b (rows:=matL n m A) (by rw[x00]; omega)
 rw[U04 (by omega)]at e
 obtain rfl:=Option.some.inj e
 rw[<-hl,m00]
theorem I08{α:Type}{n m:Nat}(A:Nat->Nat->α)(h:1<=n):Rect (matL n m A):=by
 intro row hr
 rw[B04 A h]
 unfold matL at hr
 obtain⟨i,_,rfl⟩:=List.mem_map.1 hr
 exact m00 _ _
theorem y0f{S n m:Nat}{A:Nat->Nat->Cq}(h:∀i k,i<n->k<m->(A i k).sz<=S):H08 S (matL n m A):=by
 intro row hr z hz
 unfold matL at hr
 obtain⟨i,hi,rfl⟩:=List.mem_map.1 hr
 unfold rowL at hz
 obtain⟨k,hk,rfl⟩:=List.mem_map.1 hz
 exact h i k (by simpa using hi) (by simpa using hk)
set_option maxHeartbeats 1000000 in
theorem i0t(b:Bool){V:View}{g wg kg:k00}{w v:Sl}{rows wts:List (List Cq)}{ws vs:List Cq}{K:List (List Bool)}(S T Z Zc:Nat)(h:K00 5 numC V g.rows rows)(hr:Rect rows)(hq:b02 V w ws)(hv:b02 V v vs)
 (hw:K00 5 numC V wg.rows wts) (rw':Rect wts) (hk:K00 1 Go.Vc.boolC V kg.rows K) (rk:Rect K)
 (hS:H08 S rows) (hT:okSz T ws) (hT2:okSz T vs) (s1:1<=S) (t1:1<=T) (hZ1:64*(64*(S+T+2)+9+T+2)+9<=Z) (hZ:Z<=2^36) (zw:H08 Z wts)
 (hc:∀i k,i<rows.length->k<K01 rows->(ledC b (S0e false rows ws vs) wts K i k).sz<=Zc) (c1:1<=Zc) (hsz:64*(64*(Zc+T+2)+9+T+2)<=2^39) :
 a00 Tryz.prog J09 #[g.val,w.v,v.v,wg.val,kg.val,.func (.func (chf b)) #[] #[]] V λu V'=>∃r:k00,u = .tuple #[r.val,.int .i64 (ledE b rows ws vs wts K)]/\K00 5 numC V' r.rows (ledR b rows ws vs wts K):=by
 have bad:∀(V':View) (e:Int),ledE b rows ws vs wts K=e->e≠0->∃r:k00,Value.tuple #[(k00.mk (Sl.mk none 0 0)).val,.int .i64 e] = .tuple #[r.val,.int .i64 (ledE b rows ws vs wts K)]/\K00 5 numC V' r.rows (ledR b rows ws vs wts K):=λV' e he hne=>by
  refine⟨⟨⟨none,0,0⟩⟩,by rw[he],?_⟩
  unfold ledR; rw[if_neg (by rw[he]; exact hne)]; exact A00.nil
 have k1:=@F0r b
 obtain⟨A,hA⟩:∃A,A=ledC b (S0e false rows ws vs) wts K:=⟨_,rfl⟩
 obtain⟨bt,hbt⟩:∃bt,bt=f0i b wts K (K01 rows):=⟨_,rfl⟩
 obtain⟨bc,hbc⟩:∃bc,bc=badC b wts K:=⟨_,rfl⟩
 have hlast:∀i,bt i (K01 rows)=bt (i+1) 0:=λi=>by rw[hbt]; exact J0p _ _ _ _ _
 have hstep:∀i k,bt i (k+1)=(bt i k||bc i k):=λi k=>by rw[hbt,hbc]; exact K0p _ _ _ _ _ _
 have hcell:∀i k,bc i k=(atG false K i k&&decide (chE b (atG Cq.zero wts i k)≠0)):=λi k=>by rw[hbc]; rfl
 have hE:P05 rows ws vs=true->z0h rows wts K->ledE b rows ws vs wts K=if bt rows.length 0=true then 3 else 0:=λx y=>by unfold ledE; rw[if_pos ⟨x,y⟩,hbt]
 have hF:ledF b rows ws vs wts K=S0e true (matL rows.length (K01 rows) A) ws vs:=by rw[hA]; rfl
 have hcA:∀i k,i<rows.length->k<K01 rows->(A i k).sz<=Zc:=by rw[hA]; exact hc
 have h00:bt 0 0=false:=by rw[hbt]; rfl
 cases b
 case' false=>refine j06 g w v wg kg ⟨⟩ V _ ?_
 case' true=>refine Y05 g w v wg kg ⟨⟩ V _ ?_
 all_goals
  refine(n0g S T h hr hq hv hS hT hT2 s1 t1 (by omega)).mono λu V1 l1 ⟨r1,hu,h1⟩=>⟨r1,_,hu,λc=>⟨by decide,λV2 _ _ => ?_⟩,λc => ?_⟩
  . have c:P05 rows ws vs=false:=by
      cases e:P05 rows ws vs with
      | false=>rfl
      | true=>unfold m0g at c; rw[if_pos e]at c; simp at c
    have:m0g rows ws vs=4:=by unfold m0g; rw[if_neg (by rw[c]; simp)]
    rw[this]
    exact bad V2 4 (by unfold ledE; rw[if_neg (λx=>by rw[c]at x; simp at x)]) (by decide)
  have ok:P05 rows ws vs=true:=by
   cases e:P05 rows ws vs with
   | true=>rfl
   | false=>unfold m0g at c; rw[if_neg (by rw[e]; simp)]at c; simp at c
  refine(e0t (K00.le numC.le l1 h) (K00.le numC.le l1 hw)).mono λu V3 l3 hu=>⟨_,hu,λd=>⟨by decide,λV4 _ _ => ?_⟩,λd => ?_⟩
  . have d:¬(rows.length=wts.length/\K01 rows=K01 wts):=λx=>by rw[decide_eq_true x]at d; simp at d
    exact bad V4 4 (by unfold ledE; rw[if_neg (λx=>d x.2.1)]) (by decide)
  have d:rows.length=wts.length/\K01 rows=K01 wts:=by simpa using d
  refine(f0t (K00.le numC.le (View.le_trans l1 l3) h) (K00.le Go.Vc.boolC.le (View.le_trans l1 l3) hk)).mono λu V5 l5 hu=>⟨_,hu,λd2=>⟨by decide,λV6 _ _ => ?_⟩,λd2 => ?_⟩
  . have d2:¬(rows.length=K.length/\K01 rows=K01 K):=λx=>by rw[decide_eq_true x]at d2; simp at d2
    exact bad V6 4 (by unfold ledE; rw[if_neg (λx=>d2 x.2.2)]) (by decide)
  have d2:rows.length=K.length/\K01 rows=K01 K:=by simpa using d2
  have fit:z0h rows wts K:=⟨d,d2⟩
  obtain⟨n,mm,hn,hm,ew,ev,hM⟩:=c0j ok hr
  have p1:1<=2^n:=Nat.pow_pos (by omega)
  have p2:2^n<=2^6:=Nat.pow_le_pow_right (by omega) hn
  have p3:1<=2^mm:=Nat.pow_pos (by omega)
  have p4:2^mm<=2^6:=Nat.pow_le_pow_right (by omega) hm
  have lR:=hM.len
  have lC:=hM.cols
  have mF:Mid (S0e false rows ws vs) n mm:=C0r hM false ew ev
  have sF:=c0t hM hn hm false ew ev hS hT hT2 s1 t1
  have sF':H08 Z (S0e false rows ws vs):=λrow hr z hz=>Nat.le_trans (sF row hr z hz) hZ1
  unfold f0k at h1
  rw[if_pos ok]at h1
  refine(z02 (K00.le numC.le (View.le_trans l1 (View.le_trans l3 l5)) h)).mono λu V7 l7 hu=>⟨_,_,hu,λb4 V8 l8 g8 b5 V9 l9 g9 b6 V10 l10 g10 b7 V11 l11 g11 b8 _ g12 => ?_⟩
  have L11:=View.le_trans l8 (View.le_trans l9 (View.le_trans l10 l11))
  have L1:=View.le_trans l3 (View.le_trans l5 (View.le_trans l7 L11))
  have L0:=View.le_trans l1 L1
  refine(j0k (b0:=b8) (f:=⟨some (Addr.mk b4 0 none),some (Addr.mk b5 0 none),some (Addr.mk b6 0 none),some (Addr.mk b7 0 none),some (Addr.mk b8 0 none)⟩) (R:=rows.length) (C:=K01 rows) A (λi k=>if bt i k=true then 3 else 0)
   (by omega) (by omega) (by omega) (by omega) (by unfold i00; rw[if_pos rfl,h00]; rfl) (λi=>by rw[hlast]) (λi k m' V' hi hk' hle hm' => ?_)).mono λu m1 V12 l12 _ ⟨r7,hu,h7,ap,hb⟩=>⟨r7,hu,_,.inl (ldv hb),λe=>⟨_,.inl (ldv hb),by decide,λV13 _ _ => ?_⟩,λe=>⟨by decide,λV14 l14 m14 => ?_⟩⟩
  . have lx:∀ {b:Nat} {cs:Array Value},V11 b=some cs->V' b=some cs:=λh=>hle _ _ h
    refine(k1 (e:=if bt i k=true then 3 else 0) (lx (View.le_trans l9 (View.le_trans l10 l11) _ _ g8)) (lx (View.le_trans l10 l11 _ _ g9)) (lx (l11 _ _ g10)) (lx g11) (K00.le numC.le (View.le_trans L1 hle) h1) mF.rect (K00.le Go.Vc.boolC.le (View.le_trans L0 hle) hk) rk (K00.le numC.le (View.le_trans L0 hle) hw) rw'
     (by rw[mF.len]; omega) (by rw[mF.cols]; omega) ⟨by rw[mF.len]; omega,by rw[mF.cols]; omega⟩ ⟨by rw[mF.len]; omega,by rw[mF.cols]; omega⟩ sF' zw (by omega) hZ hm').mono λu m2 V2 _ _ ⟨r,hu,hr,hm2,hx⟩=>⟨r,hu,by rw[hA]; exact hr,?_,hx⟩
    rw[hm2]
    show some #[Value.int IntKind.i64 _]=some #[Value.int IntKind.i64 (if bt i (k+1)=true then 3 else 0)]
    rw[hstep,hcell]
    by_cases x:bt i k=true
    . rw[x,Bool.true_or]; rfl
    . have x:bt i k=false:=by simpa using x
      rw[x,Bool.false_or]
      by_cases y:atG false K i k=true
      . rw[y,Bool.true_and]
        rcases P0v _ (atG Cq.zero wts i k)with q|q<;>rw[q]<;>rfl
      . have y:atG false K i k=false:=by simpa using y
        rw[y]; rfl
  . have e':bt rows.length 0=true:=by
      refine Classical.byContradiction λx => ?_
      rw[if_neg x]at e; simp at e
    rw[if_pos e']
    exact bad V13 3 (by rw[hE ok fit,if_pos e']) (by decide)
  . have e':¬bt rows.length 0=true:=λx=>by rw[if_pos x]at e; simp at e
    have le14:(e07 m1 V12).le V14:=λbb cs g=>by
     rcases Z0c g with g|⟨_,g⟩
     . exact m14 _ _ g
     . exact l14 _ _ g
    have M2:Mid (matL rows.length (K01 rows) A) n mm:=⟨I08 _ (by omega),by rw[x00,lR],by rw[B04 _ (by omega),lC]⟩
    have L14:=View.le_trans L0 (View.le_trans l12 l14)
    refine(i0k Zc T (K00.le numC.le le14 h7) M2.rect (hq.le L14) (hv.le L14) (y0f hcA) hT hT2 c1 t1 hsz).mono λu V15 _ ⟨r8,hu,h8⟩=>⟨r8,_,hu,r8,?_,?_⟩
    . rw[hE ok fit,if_neg e']
      unfold m0g
      rw[if_pos]
      unfold P05
      unfold P05 at ok
      rw[B04 _ (by omega),x00]; exact ok
    . unfold f0k at h8
      rw[if_pos (by unfold P05; unfold P05 at ok; rw[B04 _ (by omega),x00]; exact ok)]at h8
      unfold ledR
      rw[if_pos (by rw[hE ok fit,if_neg e']),hF]
      exact h8
structure Lin (F:(Nat->Cq)->Cq):Prop where
 add:∀f g,F (λi=>f i+g i)=F f+F g
 sub:∀f g,F (λi=>f i-g i)=F f-F g
 mul:∀f c,F (λi=>f i*c)=F f*c
def stg:Nat->(Nat->Cq)->List Cq->Nat->Cq
 | 0,f,_,_=>f 0
 | m+1,f,ws,i =>
   if i<2^m then stg m (λk=>f (2*k)) (T01 ws 0) i+stg m (λk=>f (1+2*k)) (T01 ws 0) i*nth ws i
   else stg m (λk=>f (2*k)) (T01 ws 0) (i-2^m)-stg m (λk=>f (1+2*k)) (T01 ws 0) (i-2^m)*nth ws (i-2^m)
theorem U0e:∀(m:Nat) {f g:Nat->Cq} (ws:List Cq) (_:∀j,j<2^m->f j=g j) (i:Nat),stg m f ws i=stg m g ws i
 | 0,f,g,ws,h,i=>h 0 (by decide)
 | m+1,f,g,ws,h,i=>by
   have hp:2^(m+1)=2*2^m:=by rw[Nat.pow_succ]; omega
   have e0:=λi=>U0e m (f:=λk=>f (2*k)) (g:=λk=>g (2*k)) (T01 ws 0) (λj hj=>h _ (by omega)) i
   have e1:=λi=>U0e m (f:=λk=>f (1+2*k)) (g:=λk=>g (1+2*k)) (T01 ws 0) (λj hj=>h _ (by omega)) i
   simp only[stg,e0,e1]
theorem k0k:∀(m:Nat) {f:Nat->Cq} {zs:List Cq} (ws:List Cq) (_:zs.length=2^m) (_:∀j,j<2^m->nth zs j=f j) (i:Nat) (_:i<2^m),nth (d02 m zs ws) i=stg m f ws i
 | 0,f,zs,ws,hl,h,i,hi=>by
   have:i=0:=by simp at hi; exact hi
   subst this
   exact h 0 (by decide)
 | m+1,f,zs,ws,hl,h,i,hi=>by
   have hp:2^(m+1)=2*2^m:=by rw[Nat.pow_succ]; omega
   have l0:(zs.length+1-0) / 2=2^m:=by omega
   have l1:(zs.length+1-1) / 2=2^m:=by omega
   have e0:=k0k m (f:=λk=>f (2*k)) (zs:=T01 zs 0) (T01 ws 0) (by rw[f03,l0]) (λj hj=>by rw[B09 (by omega),Nat.zero_add]; exact h _ (by omega))
   have e1:=k0k m (f:=λk=>f (1+2*k)) (zs:=T01 zs 1) (T01 ws 0) (by rw[f03,l1]) (λj hj=>by rw[B09 (by omega)]; exact h _ (by omega))
   unfold d02
   rw[U0b hi]
   unfold stg
   by_cases c:i<2^m
   . rw[if_pos c,if_pos c,e0 i c,e1 i c]
   . rw[if_neg c,if_neg c,e0 _ (by omega),e1 _ (by omega)]
theorem l0k{F:(Nat->Cq)->Cq}(hF:Lin F):∀(m:Nat) (G:Nat->Nat->Cq) (ws:List Cq) (k:Nat),F (λi=>stg m (G i) ws k)=stg m (λj=>F (λi=>G i j)) ws k
 | 0,G,ws,k=>rfl
 | m+1,G,ws,k=>by
   have e0:=λk=>l0k hF m (λi k=>G i (2*k)) (T01 ws 0) k
   have e1:=λk=>l0k hF m (λi k=>G i (1+2*k)) (T01 ws 0) k
   simp only[stg]
   by_cases c:k<2^m
   . simp only[if_pos c]
     rw[hF.add,hF.mul,e0,e1]
   . simp only[if_neg c]
     rw[hF.sub,hF.mul,e0,e1]
theorem q0d(a b c:Cq):(a+b)*c=a*c+b*c:=Cq.ext' (by simp only[f02,Z02,a03]; grind) (by simp only[g02,Z02,a03]; grind)
theorem e0j(a b c:Cq):(a-b)*c=a*c-b*c:=Cq.ext' (by simp only[f02,J02,P02]; grind) (by simp only[g02,J02,P02,J02]; grind)
theorem U0c(a b c:Cq):a*b*c=a*c*b:=Cq.ext' (by simp only[f02,g02]; grind) (by simp only[f02,g02]; grind)
theorem A0u:Lin λh=>h 0+h 1 :=
 ⟨λf g=>Cq.ext' (by simp only[Z02]; grind) (by simp only[a03]; grind),λf g=>Cq.ext' (by simp only[Z02,J02]; grind) (by simp only[a03,P02]; grind),λf c=>(q0d _ _ _).symm⟩
theorem B0u:Lin λh=>h 0-h 1 :=
 ⟨λf g=>Cq.ext' (by simp only[Z02,J02]; grind) (by simp only[a03,P02]; grind),λf g=>Cq.ext' (by simp only[J02]; grind) (by simp only[P02]; grind),λf c=>(e0j _ _ _).symm⟩
theorem C0u(c:Cq):Lin λh=>h 0*c:=⟨λf g=>q0d _ _ _,λf g=>e0j _ _ _,λf d=>U0c _ _ _⟩
def two(f g:Nat->Cq)(i:Nat):Nat->Cq:=if i=0 then f else g
def trn(back:Bool)(m:Nat)(f:Nat->Cq)(ws:List Cq)(i:Nat):Cq:=if back=true then stg m f (W06 ws) i*s0a (2^m)else stg m f ws i
theorem W0e{back:Bool}{m:Nat}{f g:Nat->Cq}{ws:List Cq}(h:∀j,j<2^m->f j=g j)(i:Nat):trn back m f ws i=trn back m g ws i:=by
 unfold trn; rw[U0e m _ h,U0e m _ h]
theorem A0h{F:(Nat->Cq)->Cq}(hF:Lin F)(back:Bool)(m:Nat)(G:Nat->Nat->Cq)(ws:List Cq)(k:Nat):F (λi=>trn back m (G i) ws k)=trn back m (λj=>F (λi=>G i j)) ws k:=by
 unfold trn
 cases back
 . exact l0k hF m G ws k
 . simp only[if_true]
   rw[hF.mul,l0k hF]
theorem m0k(back:Bool)(m:Nat)(ws:List Cq)(k:Nat):Lin λf=>trn back m f ws k :=
 ⟨λf g=>(A0h A0u back m (two f g) ws k).symm,λf g=>(A0h B0u back m (two f g) ws k).symm,λf c=>(A0h (C0u c) back m (two f f) ws k).symm⟩
theorem z0f{back:Bool}{m:Nat}{f:Nat->Cq}{zs ws:List Cq}(hl:zs.length=2^m)(hw:ws.length=2^m)(h:∀j,j<2^m->nth zs j=f j){i:Nat}(hi:i<2^m):nth (F08 back zs ws) i=trn back m f ws i:=by
 unfold F08 trn l0g k0g
 rw[hw,T07]
 cases back
 . exact k0k m ws hl h i hi
 . simp only[if_true]
   unfold l06
   rw[U0b (by rw[E02]; exact hi),E02,k0k m (W06 ws) hl h i hi]
theorem X0n{m:Nat}(hm:m<=2)(f:Nat->Cq){k:Nat}(hk:k<2^m):trn true m (λj=>trn false m f (U02 m) j) (U02 m) k=f k:=by
 have ho:(U02 m).length=2^m:=by
  have:m=0\/m=1\/m=2:=by omega
  rcases this with rfl|rfl|rfl<;>rfl
 have hz:(rowL (2^m) f).length=2^m:=m00 _ _
 have hf:∀j,j<2^m->nth (rowL (2^m) f) j=f j:=λj hj=>by unfold nth; rw[List.getD_eq_getElem?_getD,M03 hj]; rfl
 have e:=F0s hm hz
 have hs:(F08 false (rowL (2^m) f) (U02 m)).length=2^m:=G08 ho
 have g:=z0f (back:=true) (f:=λj=>trn false m f (U02 m) j) hs ho (λj hj=>z0f hz ho hf hj) hk
 rw[<-g,<-hf k hk]
 show nth (l0g (k0g (rowL (2^m) f) (U02 m)) (U02 m)) k=_
 unfold l0g k0g
 rw[ho,T07,e]
theorem G0r{n m:Nat}(back:Bool)(A:Nat->Nat->Cq){ws:List Cq}(hw:ws.length=2^m):((matL n (2^m) A).map λrow=>F08 back row ws)=matL n (2^m) λi k=>trn back m (A i) ws k:=by
 unfold matL
 rw[List.map_map]
 refine List.map_congr_left λi _ => ?_
 show F08 back (rowL (2^m) (A i)) ws=rowL (2^m) _
 apply List.ext_getElem?
 intro k
 by_cases hk:k<2^m
 . rw[M03 hk,S0j (by rw[G08 hw]; exact hk)]
   rw[z0f (f:=A i) (m00 _ _) hw (λj hj=>by unfold nth; rw[List.getD_eq_getElem?_getD,M03 hj]; rfl) hk]
 . rw[List.getElem?_eq_none (by rw[G08 hw]; omega),List.getElem?_eq_none (by rw[m00]; omega)]
theorem j0t{n m:Nat}(A:Nat->Nat->Cq)(h:1<=n):K01 (matL n m A)=m:=by
 obtain⟨row,e,hl⟩:=W0b (rows:=matL n m A) (by rw[x00]; omega)
 rw[U04 (by omega)]at e
 obtain rfl:=Option.some.inj e
 rw[<-hl,m00]
theorem Q0v{n m i k:Nat}(A:Nat->Nat->Cq)(hi:i<n)(hk:k<m):atG Cq.zero (matL n m A) i k=A i k:=by
 unfold atG
 have e1:(matL n m A).getD i []=rowL m (A i):=by rw[List.getD_eq_getElem?_getD,U04 hi]; rfl
 rw[e1,List.getD_eq_getElem?_getD,M03 hk]; rfl
theorem Y0n{n m:Nat}(A:Nat->Nat->Cq)(h:1<=n):X0d Cq.zero (matL n m A)=matL m n λj i=>A i j:=by
 unfold X0d
 rw[j0t A h,x00]
 exact t0b λj i hj hi=>Q0v A hi hj
theorem pow1(n:Nat):1<=2^n:=Nat.pow_pos (by omega)
theorem k0t{n m:Nat}(back:Bool)(A:Nat->Nat->Cq){ws vs:List Cq}(hw:ws.length=2^m)(hv:vs.length=2^n) :
 S0e back (matL (2^n) (2^m) A) ws vs=matL (2^n) (2^m) λi k=>trn back n (λi'=>trn back m (A i') ws k) vs i:=by
 unfold S0e
 rw[G0r back A hw,Y0n _ (pow1 n),G0r back _ hv,Y0n _ (pow1 m)]
def dft(back:Bool)(n m:Nat)(A:Nat->Nat->Cq)(i k:Nat):Cq:=trn back n (λi'=>trn back m (A i') (U02 m) k) (U02 n) i
theorem Z0b{m:Nat}(hm:m<=2):(U02 m).length=2^m:=by
 have:m=0\/m=1\/m=2:=by omega
 rcases this with rfl|rfl|rfl<;>rfl
theorem B0h{n m:Nat}(back:Bool)(A:Nat->Nat->Cq)(hn:n<=2)(hm:m<=2):S0e back (matL (2^n) (2^m) A) (U02 m) (U02 n)=matL (2^n) (2^m) (dft back n m A) :=
 k0t back A (Z0b hm) (Z0b hn)
theorem H0r{back:Bool}{n m:Nat}{A B:Nat->Nat->Cq}(h:∀i k,i<2^n->k<2^m->A i k=B i k)(i k:Nat):dft back n m A i k=dft back n m B i k:=by
 unfold dft
 exact W0e (λi' hi=>W0e (λk' hk=>h i' k' hi hk) k) i
theorem I0r{m:Nat}(hm:m<=2)(f:Nat->Cq){k:Nat}(hk:k<2^m):trn false m (λj=>trn true m f (U02 m) j) (U02 m) k=f k:=by
 have ho:=Z0b hm
 have hz:(rowL (2^m) f).length=2^m:=m00 _ _
 have hf:∀j,j<2^m->nth (rowL (2^m) f) j=f j:=λj hj=>by unfold nth; rw[List.getD_eq_getElem?_getD,M03 hj]; rfl
 have e:=G0s hm hz
 have hs:(F08 true (rowL (2^m) f) (U02 m)).length=2^m:=G08 ho
 have g:=z0f (back:=false) (f:=λj=>trn true m f (U02 m) j) hs ho (λj hj=>z0f hz ho hf hj) hk
 rw[<-g,<-hf k hk]
 show nth (k0g (l0g (rowL (2^m) f) (U02 m)) (U02 m)) k=_
 unfold l0g k0g
 rw[ho,T07,e]
theorem l0t{n m:Nat}(hn:n<=2)(hm:m<=2)(A:Nat->Nat->Cq){i k:Nat}(hi:i<2^n)(hk:k<2^m):dft true n m (dft false n m A) i k=A i k:=by
 unfold dft
 have c:∀i',trn true m (λk'=>trn false n (λi''=>trn false m (A i'') (U02 m) k') (U02 n) i') (U02 m) k=trn false n (λi''=>A i'' k) (U02 n) i':=λi'=>by
  have:=A0h (m0k true m (U02 m) k) false n (λk' i''=>trn false m (A i'') (U02 m) k') (U02 n) i'
  rw[this]
  exact W0e (λj _=>X0n hm (A j) hk) i'
 simp only[c]
 exact X0n hn (λi''=>A i'' k) hi
theorem Z0n{n m:Nat}(hn:n<=2)(hm:m<=2)(A:Nat->Nat->Cq){i k:Nat}(hi:i<2^n)(hk:k<2^m):dft false n m (dft true n m A) i k=A i k:=by
 unfold dft
 have c:∀i',trn false m (λk'=>trn true n (λi''=>trn true m (A i'') (U02 m) k') (U02 n) i') (U02 m) k=trn true n (λi''=>A i'' k) (U02 n) i':=λi'=>by
  have:=A0h (m0k false m (U02 m) k) true n (λk' i''=>trn true m (A i'') (U02 m) k') (U02 n) i'
  rw[this]
  exact W0e (λj _=>I0r hm (A j) hk) i'
 simp only[c]
 exact I0r hn (λi''=>A i'' k) hi
theorem D0u(b:Bool)(m:Nat)(f g:Nat->Cq)(ws:List Cq)(k:Nat):trn b m (λi=>f i+g i) ws k=trn b m f ws k+trn b m g ws k:=(m0k b m ws k).add f g
theorem E0u(b:Bool)(m:Nat)(f:Nat->Cq)(c:Cq)(ws:List Cq)(k:Nat):trn b m (λi=>f i*c) ws k=trn b m f ws k*c:=(m0k b m ws k).mul f c
theorem F0u(b:Bool)(n m:Nat)(A B:Nat->Nat->Cq)(i k:Nat):dft b n m (λi k=>A i k+B i k) i k=dft b n m A i k+dft b n m B i k:=by
 unfold dft; simp only[D0u]
theorem G0u(b:Bool)(n m:Nat)(A:Nat->Nat->Cq)(c:Cq)(i k:Nat):dft b n m (λi k=>A i k*c) i k=dft b n m A i k*c:=by
 unfold dft; simp only[E0u]
theorem M0t{back:Bool}{m S:Nat}(hm:m<=2){f:Nat->Cq}(h:∀j,j<2^m->(f j).sz<=S){k:Nat}(hk:k<2^m):(trn back m f (U02 m) k).sz<=4*(S+6)+9:=by
 have hw:=Z0b hm
 have hz:(rowL (2^m) f).length=2^m:=m00 _ _
 have hf:∀j,j<2^m->nth (rowL (2^m) f) j=f j:=λj hj=>by unfold nth; rw[List.getD_eq_getElem?_getD,M03 hj]; rfl
 have e:=z0f (back:=back) hz hw hf hk
 have hS:∀i,i<2^m->(nth (rowL (2^m) f) i).sz<=S:=λi hi=>by rw[hf i hi]; exact h i hi
 have hT:∀i,i<2^m->(nth (U02 m) i).sz<=4:=λi hi=>U0n hm i hi
 have h2:2^m<=2^2:=Nat.pow_le_pow_right (by omega) hm
 have h3:=Nat.mul_le_mul_right (S+4+2) h2
 rw[<-e]
 unfold F08
 split
 . unfold l0g; rw[hw,T07]
   have hl:=E02 m (rowL (2^m) f) (W06 (U02 m))
   have:=U0i (d02 m (rowL (2^m) f) (W06 (U02 m))) (4*(S+6)) (by rw[hl]; omega) (λi hi => ?_) k (by rw[hl]; exact hk)
   . exact this
   . rw[hl]at hi
     have hc:=T0j (U02 m) 4 (λi hi=>hT i (by rw[<-hw]; exact hi))
     rw[hw]at hc
     have:=C08 m (rowL (2^m) f) (W06 (U02 m)) S 4 hz (by rw[H0c,hw]) hS hc i hi
     omega
 . unfold k0g; rw[hw,T07]
   have:=C08 m (rowL (2^m) f) (U02 m) S 4 hz hw hS hT k hk
   omega
theorem I0l{back:Bool}{n m S:Nat}(hn:n<=2)(hm:m<=2){A:Nat->Nat->Cq}(h:∀i k,i<2^n->k<2^m->(A i k).sz<=S){i k:Nat}(hi:i<2^n)(hk:k<2^m):(dft back n m A i k).sz<=16*S+165:=by
 unfold dft
 have:=M0t (back:=back) (S:=4*(S+6)+9) hn (f:=λi'=>trn back m (A i') (U02 m) k) (λj hj=>M0t hm (λk' hk'=>h j k' hj hk') hk) hi
 omega
def ledM(K:Nat->Nat->Bool)(M:Nat->Nat->Cq)(i k:Nat):Cq:=if K i k=true then M i k else Cq.zero
theorem s0d{K:Nat->Nat->Bool}{M N:Nat->Nat->Cq}{i k:Nat}(h:K i k=true->M i k=N i k):ledM K M i k=ledM K N i k:=by
 unfold ledM
 split
 . exact h (by assumption)
 . rfl
theorem J0l(a b:Cq):a*b=b*a:=Cq.ext' (by simp only[f02]; grind) (by simp only[g02]; grind)
theorem a0o(K:Nat->Nat->Bool)(M N:Nat->Nat->Cq)(x:Cq)(i k:Nat):ledM K (λi k=>M i k*x+N i k) i k=ledM K M i k*x+ledM K N i k:=by
 unfold ledM
 split
 . rfl
 . exact Cq.ext' (by simp only[Z02,f02,Cq.zero]; grind) (by simp only[a03,g02,Cq.zero]; grind)
section
variable {α:Type} {sz:Nat} {P:View->List Value->α->Prop}
end
theorem J0r{p:Int}(h:0<=p):0<=Int.tmod p 3/\IntKind.i64.wrap (1*2^(min (Int.toNat (Int.tmod p 3)) (IntKind.bits .i64)))=((2^x0f p:Nat):Int):=by
 have hm:=Q0e h
 have h0:0<=Int.tmod p 3:=by rw[Int.tmod_eq_emod_of_nonneg h]; omega
 refine⟨h0,?_⟩
 unfold x0f at hm ⊢
 generalize Int.toNat (Int.tmod p 3)=k at hm
 have:k=0\/k=1\/k=2:=by omega
 rcases this with rfl|rfl|rfl<;>decide
theorem W0c{r:RatV}(h:ratI r):(ratQ r).sz<=64:=by
 obtain⟨⟨a,b⟩,⟨c,d⟩,e,f⟩:=h
 have key:Rep (ratQ r) (if r.den<0 then -r.re else r.re) (if r.den<0 then -r.im else r.im) (if r.den=0 then 1 else r.den.natAbs):=by
  unfold ratQ
  split
  . rename_i h0
    have:¬r.den<0:=by omega
    rw[if_neg this,if_neg this]
    refine⟨by omega,?_,?_⟩<;>simp only[]<;>rw[Rat.div_def]<;>simp<;>grind
  . by_cases hn:r.den<0
    . rw[if_pos hn,if_pos hn]
      have hd:(r.den:Rat)≠0:=by
       intro e0
       have:=Rat.intCast_inj.1 (e0.trans Rat.intCast_zero.symm)
       omega
      have e:((r.den.natAbs:Nat):Rat) = -(r.den:Rat):=by
       have e1:((r.den.natAbs:Nat):Rat)=(((r.den.natAbs:Nat):Int):Rat):=rfl
       have e2:((r.den.natAbs:Nat):Int) = -r.den:=by omega
       rw[e1,e2,Rat.intCast_neg]
      refine⟨by omega,?_,?_⟩<;>simp only[e,Rat.intCast_neg]<;>grind
    . rw[if_neg hn,if_neg hn]
      have e:((r.den.natAbs:Nat):Rat)=(r.den:Rat):=by
       have e2:((r.den.natAbs:Nat):Int)=r.den:=by omega
       conv=>rhs; rw[<-e2]
       rfl
      exact⟨by omega,by simp only[e],by simp only[e]⟩
 refine key.sz ?_ ?_ ?_
 . exact i05 (by split<;>omega)
 . exact i05 (by split<;>omega)
 . exact i05 (by split<;>omega)
theorem L0p{sz n c:Nat}{o l:List Value}(h:s03 sz n c o l):l.length=n*sz:=by
 have h1:=h.le; have h2:=h.len; have h3:=h.take
 rw[<-h3,List.length_take,h2]
 exact Nat.min_eq_left (Nat.mul_le_mul_right _ h1)
theorem H0u{rows:List (List Cq)}(hr:Rect rows){i:Nat}(hi:i<rows.length):rows.getD i []=rowL (K01 rows) (atG Cq.zero rows i):=by
 have:=H0e hr (P07 hi [])
 rw[<-this]
 exact C0n Cq.zero _
theorem Y0a{m V:View}{g:k00}{rows:List (List Cq)}(h:K00 5 numC V g.rows rows)(hr:Rect rows)(n1:1<=rows.length)(n2:rows.length<=64)(w1:1<=K01 rows)(w2:K01 rows<=64) :
 o02 Tryz.prog m04 #[g.val] m V λv m' V'=>∃r:Sl,v=r.v/\MatX 5 numC m' V' r rows.length (K01 rows) (atG Cq.zero rows) (λb=>m b=none)/\∀b,m b≠none->m' b=m b:=by
 have b30:∀row,row∈rows->row.length<=2^30:=λrow hrw=>by rw[hr row hrw]; omega
 refine e08 m g V _ (λ_ x V'=>∃(t:Nat) (l:List Value),x.t15=t/\t<=rows.length/\s03 1 x.t5l x.t5c x.o5 l/\x.t5l=t/\b07 5 numC x.o0 V' l t (K01 rows) (atG Cq.zero rows) (λb=>m b=none)/\∀b,m b≠none->x.o0 b=m b) (λ_ x _=>rows.length-x.t15.toNat) ?_
 refine(z02 h).mono λv V1 l1 hv=>⟨_,_,hv,⟨0,[],rfl,by omega,s03.nil,rfl,b07.none _ _ _ _ _ _,λ_ _=>rfl⟩,?_⟩
 rintro⟨t5l,t5c,t15,o0,o5⟩ V2 l2 ⟨t,l,et,ht,hL,el,hR,hm⟩
 dsimp only at et hL el hR hm ⊢
 subst et; subst el
 have hll:=L0p hL
 rw[Nat.mul_one]at hll
 have back:∀b,o0 b=none->m b=none:=λb hb=>by
  cases e:m b with
  | none=>rfl
  | some cs=>have:=hm b (by rw[e]; simp); rw[hb,e]at this; simp at this
 refine⟨λhlt => ?_,λhge => ?_⟩
 . have hk:t5l<rows.length:=by have:=of_decide_eq_true hlt; omega
   refine(j0g (i:=(t5l:Int)) (K00.le numC.le (View.le_trans l1 l2) h) b30).mono λv m1 V3 l3 _ ⟨r,e,hv,q1,_⟩=>⟨r,e,hv,λb1 V4 l4 _ hb1 => ?_⟩
   obtain⟨_,b,hb,hb0,hbk⟩:=q1 ⟨by omega,by omega⟩
   rw[Int.toNat_natCast,H0u hr hk]at hb hb0 hbk
   have hne:rowL (K01 rows) (atG Cq.zero rows t5l)≠[]:=T0a (by omega) _
   have hnew:V4.has (some (Addr.mk b1 0 none)) [r.v]:=F04 (cs:=[r.v]) (j:=0) hb1 (λi v hv=>by rw[Nat.zero_add]; exact hv) rfl
   refine⟨l,_,hL,hnew,rfl,by intro v hv; simp at hv; subst hv; rfl,by unfold maxLen; omega,by omega,λc1 l3' hl3 => ?_⟩
   rw[i64w (by omega) (by omega)]
   refine⟨⟨t5l+1,_,by omega,by omega,hl3,rfl,(hR.le numC.le (View.le_trans l3 l4)).push (by omega) (by rw[List.getElem?_append_right (by omega),hll]; simp) (λi hi=>by rw[List.getElem?_append_left (by omega)]) (hb.le numC.le l4) (hb0 hne) (λi hi=>hbk i (.inl hi)) (back b (hb0 hne)),λi hi => ?_⟩,by omega⟩
   have:i≠b:=λe=>by rw[e,back b (hb0 hne)]at hi; exact hi rfl
   rw[hbk i (.inl this)]; exact hm i hi
 . have e:t5l=rows.length:=by have:=of_decide_eq_false hge; omega
   subst e
   obtain⟨o',eo⟩:=hL.split
   have hne:o5≠[]:=λe=>by rw[e]at eo; have:=congrArg List.length eo; rw[List.length_append]at this; simp at this; omega
   have hc:=hL.le
   refine⟨hne,λb2 hb2 hb2'=>⟨_,rfl,⟨rfl,hc,b2,l,o',?_,?_,hll,back b2 hb2,?_⟩,λb hb => ?_⟩⟩
   . show lstA b2 t5c=_
     unfold lstA; rw[if_neg (by omega)]
   . unfold i00; rw[if_pos rfl,eo]
   . refine((hR.there (by omega)).weaken (T:=λb=>m b=none/\b≠b2) λb hb=>⟨hb.1,λe=>hb.2 (by rw[e]; exact hb2)⟩).agree λb hb => ?_
     unfold i00; rw[if_neg hb.2]
   . have:b≠b2:=λe=>by rw[e,back b2 hb2]at hb; exact hb rfl
     show i00 o0 b2 _ b=_
     unfold i00; rw[if_neg this]; exact hm b hb
theorem X0c{V:View}{g:k00}{rows:List (List Cq)}(h:K00 5 numC V g.rows rows)(hr:Rect rows)(n1:1<=rows.length)(n2:rows.length<=64)(w1:1<=K01 rows)(w2:K01 rows<=64) :
 a00 Tryz.prog m04 #[g.val] V λv V'=>∃r:Sl,v=r.v/\K00 5 numC V' r rows:=by
 refine o02.known (Y0a (m:=λ_=>none) h hr n1 n2 w1 w2) λv m V' V2 l e ap ⟨r,hv,hX,_⟩=>⟨r,hv,?_⟩
 subst e
 have:=hX.known (V':=e07 m V') (numC.le (z0b ap)) (λb cs g=>y07 g)
 rw[<-A0s Cq.zero hr]at this; exact this
def rawC(rs:List RatV)(w i k:Nat):Cq:=if rs=[]then Cq.zero else ratQ (rnth rs ((i*w+k)%rs.length))
theorem n0k{rs:List RatV}(h:∀r∈rs,ratI r){i:Nat}(hi:i<rs.length):ratI (rnth rs i):=h _ (List.mem_of_getElem? (i:=i) (by unfold rnth; simp[List.getD,hi]))
theorem I0u{rs:List RatV}(h:∀r∈rs,ratI r)(w i k:Nat):(rawC rs w i k).sz<=64:=by
 unfold rawC
 split
 . exact Nat.le_trans D09 (by omega)
 . rename_i hne
   have:0<rs.length:=by cases rs with
    | nil=>exact absurd rfl hne
    | cons=>simp
   exact W0c (n0k h (Nat.mod_lt _ this))
def Y0m(p:Int):Int:=IntKind.u8.wrap (Int.tdiv p 3)
theorem b0o{p:Int}(h:0<=p)(h2:p<=255):0<=Y0m p:=by
 unfold Y0m
 rw[Int.tdiv_eq_ediv_of_nonneg h,IntWalk.u8_in _ ⟨by omega,by omega⟩]; omega
theorem K0l{m:Nat}(h:m<=2):2^m=1\/2^m=2\/2^m=4:=by
 have:m=0\/m=1\/m=2:=by omega
 rcases this with rfl|rfl|rfl<;>simp
theorem m0t{a b m k:Nat}(L:Nat)(h:a<=64)(hm:m<=64)(hk:k<=64)(hb:b=a*m+k):Int.tmod (IntKind.i64.wrap ((IntKind.i64.wrap ((a:Int)*(m:Int)))+(k:Int))) (L:Int)=((b%L:Nat):Int):=by
 have:a*m<=64*64:=Nat.mul_le_mul h hm
 rw[<-Int.natCast_mul,i64w (n:=((a*m:Nat):Int)) (by omega) (by omega),<-Int.natCast_add,i64w (by omega) (by omega),<-hb,Int.ofNat_tmod]
theorem zrow(V:View)(b m:Nat)(h:0<m):RowR 5 numC (i00 (λ_=>none) b (List.replicate m [Value.bool false,Value.slice none 0 0,Value.bool false,Value.slice none 0 0,Value.slice none 0 0]).flatten.toArray) V ⟨some (Addr.mk b 0 none),m,m⟩ b (rowL m λ_=>Cq.zero):=by
 refine⟨by rw[m00],Nat.le_refl _,λe=>absurd e (T0a h _),λ_=>⟨rfl,_,[],by rw[List.append_nil]; unfold i00; rw[if_pos rfl],?_,?_⟩⟩
 . have e:rowL m (λ_=>Cq.zero)=List.replicate m Cq.zero:=p0d ..
   rw[e]; exact j05.zeros V m
 . rw[List.append_nil]; have:=M01.length (j05.zeros V m); rw[List.length_replicate]at this; exact this
set_option maxHeartbeats 1000000 in
theorem K0r{V:View}{s:Sl}{rs:List RatV}{p:Int}(h:H0d V s rs)(hi:∀r∈rs,ratI r)(a0:0<=p)(a1:p<=255) :
 a00 Tryz.prog a09 #[s.v,.int .u8 p] V λv V'=>∃(g:k00) (w u:Sl),v = .tuple #[g.val,w.v,u.v]/\K00 5 numC V' g.rows (matL (2^x0f p) (2^x0f (Y0m p)) (rawC rs (2^x0f (Y0m p)))) /\
  b02 V' w (U02 (x0f (Y0m p)))/\b02 V' u (U02 (x0f p)):=by
 have hsl:s.len=rs.length:=h.len
 have a2:=b0o a0 a1
 obtain⟨t1,e1⟩:=J0r a0
 obtain⟨t2,e2⟩:=J0r a2
 have hn:=Q0e a0
 have hm:=Q0e a2
 have cn:=K0l hn
 have cm:=K0l hm
 have k1:=y0h hn
 have k2:=y0h hm
 obtain⟨n,en⟩:∃n,n=2^x0f p:=⟨_,rfl⟩
 obtain⟨m,em⟩:∃m,m=2^x0f (Y0m p):=⟨_,rfl⟩
 rw[<-en]at e1 cn k1 ⊢
 rw[<-em]at e2 cm k2 ⊢
 refine A0c s p V _
  (λ_ x V'=>∃t:Nat,x.t29=t/\t<=n/\x.o26.length=n/\b07 5 numC x.o0 V' x.o26 t m (rawC rs m) (λ_=>True)) (λ_ x _=>n-x.t29.toNat)
  (λc x V'=>∃(t k b:Nat) (o0:View),c.t29=t/\t<n/\x.t42=k/\k<=m/\c.o26.length=n/\c.o26[t]?=some (Sl.mk (some (Addr.mk b 0 none)) m m).v/\b07 5 numC o0 V' c.o26 t m (rawC rs m) (λ_=>True)/\o0 b=none/\(∀i,i≠b->x.o0 i=o0 i) /\
    RowR 5 numC x.o0 V' ⟨some (Addr.mk b 0 none),m,m⟩ b (rowL m λj=>if j<k then rawC rs m t j else Cq.zero)) (λ_ x _=>m-x.t42.toNat) ?_
 have e2':IntKind.i64.wrap (1*2^(min (Int.toNat (Int.tmod (IntKind.u8.wrap (Int.tdiv p 3)) 3)) (IntKind.bits .i64)))=(m:Int):=e2
 rw[e1,e2',Int.toNat_natCast,Int.toNat_natCast]
 refine⟨t1,t2,⟨by omega,by omega,by omega,by omega⟩,⟨0,rfl,by omega,by rw[z0p]; simp,b07.none _ _ _ _ _ _⟩,?_⟩
 rintro⟨t29,o0,o4,o26⟩ V1 l1 ⟨t,et,ht,hol,hR⟩
 dsimp only at et hol hR ⊢
 subst et
 refine⟨λhlt => ?_,λhge => ?_⟩
 . have hk:t<n:=by have:=of_decide_eq_true hlt; omega
   have e0:(0+Int.toNat (t:Int)*1)=t:=by omega
   refine⟨⟨by omega,by omega,by omega,by omega⟩,λb1 hb1 hb1'=>⟨⟨by omega,by omega⟩,by rw[e0,hol]; omega,⟨by omega,by omega⟩,⟨some (Addr.mk b1 0 none),m,m⟩,by rw[e0,List.getElem?_set_self (by omega)]; rfl,?_,?_⟩⟩
   . refine⟨t,0,b1,o0,rfl,hk,rfl,by omega,by rw[List.length_set]; exact hol,by rw[e0,List.getElem?_set_self (by omega)]; rfl,hR.list (λi hi=>by rw[e0,List.getElem?_set_ne (by omega)]),hb1,λi hi=>by show i00 o0 b1 _ i=_; unfold i00; rw[if_neg hi],?_⟩
     have hz:=zrow V1 b1 m (by omega)
     rw[m03 (g:=λ_=>Cq.zero) λj _=>by rw[if_neg (by omega)]]
     refine hz.agree λ_ => ?_
     show i00 o0 b1 _ b1=i00 _ b1 _ b1
     unfold i00; rw[if_pos rfl,if_pos rfl]
   rintro⟨t42,o0'⟩ V2 l2 ⟨t',k,b,o1,et,htn,ek,hkm,hcl,hcs,hRX,hob,hagr,hrow⟩
   dsimp only at et ek hcl hcs hRX hagr hrow ⊢
   obtain rfl:t'=t:=by omega
   subst ek
   rw[e0]at hcs
   rw[List.getElem?_set_self (by omega)]at hcs
   have hcs':=Option.some.inj hcs
   obtain rfl:b1=b:=by
    have:Value.slice (some (Addr.mk b1 0 none)) m m=Value.slice (some (Addr.mk b 0 none)) m m:=hcs'
    simp at this; exact this
   refine⟨λhlt2 => ?_,λhge2 => ?_⟩
   . have hk2:k<m:=by have:=of_decide_eq_true hlt2; omega
     have stepR:∀ {V':View} {y:NumV},View.le V2 V'->J01 V' y (rawC rs m t' k)->∃(l:List Value),Option.map (λq=>Addr.add q (Int.toNat (k:Int)*5)) (some (Addr.mk b1 0 none))=some (Addr.mk b1 (k*5) none)/\o0' b1=some l.toArray/\k*5+5<=l.length /\
      RowR 5 numC (i00 o0' b1 (setL l (k*5) y.val.cells.toList).toArray) V' ⟨some (Addr.mk b1 0 none),m,m⟩ b1 (rowL m λj=>if j<k+1 then rawC rs m t' j else Cq.zero):=λ{V' y} hle hy=>by
      obtain⟨l,q1,q2,q3,q4⟩:=(hrow.le numC.le hle).put (k:=k) (by rw[m00]; exact hk2) (y:=y.val.cells.toList) rfl ⟨y,rfl,hy⟩
      rw[Int.toNat_natCast]
      refine⟨l,q1,q2,q3,?_⟩
      rw[o0d]at q4
      rw[m03 (g:=λj=>if j=k then rawC rs m t' k else if j<k then rawC rs m t' j else Cq.zero) λj _ => ?_]
      . exact q4
      . by_cases c:j=k
        . subst c; rw[if_pos (by omega),if_pos rfl]
        . rw[if_neg c]
          by_cases c2:j<k
          . rw[if_pos c2,if_pos (by omega)]
          . rw[if_neg c2,if_neg (by omega)]
     rw[i64w (n:=(k:Int)+1) (by omega) (by omega)]
     refine⟨λhp => ?_,λhp => ?_⟩
     . have hp:0<rs.length:=by have:=of_decide_eq_true hp; omega
       have hne:rs≠[]:=λe=>by rw[e]at hp; simp at hp
       have hlt3:(t'*m+k)%rs.length<rs.length:=Nat.mod_lt _ hp
       rw[hsl,m0t (b:=t'*m+k) rs.length (by omega) (by omega) (by omega) rfl]
       obtain⟨d1,x,hx,_,hh,hs⟩:=A00.get (h.le (View.le_trans l1 l2)) (t:=(((t'*m+k)%rs.length:Nat):Int)) (by omega) (z:=rnth rs ((t'*m+k)%rs.length)) (by rw[Int.toNat_natCast]; unfold rnth; simp[List.getD,hlt3])
       rw[hsl]at d1
       have hx:x=(rnth rs ((t'*m+k)%rs.length)).val.cells.toList:=hx
       subst hx
       refine⟨⟨by omega,by omega⟩,⟨some (Addr.mk b1 0 none),m,m⟩,by rw[e0,List.getElem?_set_self (by omega)]; rfl,by omega,d1,_,.inr hh,hs,(P0c (n0k hi hlt3)).mono λv V3 l3 ⟨y,hv,hy⟩=>⟨y,hv,⟨by omega,by show(k:Int)<((m:Nat):Int); omega,rfl⟩,?_⟩⟩
       have hyr:J01 V3 y (rawC rs m t' k):=by unfold rawC; rw[if_neg hne]; exact hy
       obtain⟨l,q1,q2,q3,q4⟩:=stepR l3 hyr
       refine⟨b1,k*5,l,q1,q2,q3,⟨t',k+1,b1,o1,rfl,htn,by omega,by omega,hcl,by rw[e0,List.getElem?_set_self (by omega)]; rfl,hRX.le numC.le l3,hob,λi hi => ?_,q4⟩,by omega⟩
       show i00 o0' b1 _ i=_
       unfold i00; rw[if_neg hi]; exact hagr i hi
     . have hp:rs=[]:=List.length_eq_zero_iff.1 (by have:=of_decide_eq_false hp; omega)
       refine⟨⟨t',k+1,b1,o1,rfl,htn,by omega,by omega,hcl,by rw[e0,List.getElem?_set_self (by omega)]; rfl,hRX,hob,hagr,?_⟩,by omega⟩
       rw[m03 (g:=λj=>if j<k then rawC rs m t' j else Cq.zero) λj _ => ?_]
       . exact hrow
       . have:rawC rs m t' j=Cq.zero:=by unfold rawC; rw[if_pos hp]
         rw[this]; split<;>split<;>rfl
   . have e:k=m:=by have:=of_decide_eq_false hge2; omega
     subst e
     rw[i64w (by omega) (by omega)]
     refine⟨⟨t'+1,by omega,by omega,hcl,hRX.push (r:=⟨some (Addr.mk b1 0 none),k,k⟩) (by omega) (by rw[e0,List.getElem?_set_self (by omega)]; rfl) (λi _=>rfl) ?_ hob hagr trivial⟩,by omega⟩
     rw[m03 (g:=λj=>if j<k then rawC rs k t' j else Cq.zero) λj hj=>by rw[if_pos hj]]
     exact hrow
 . have e:t=n:=by have:=of_decide_eq_false hge; omega
   subst e
   refine⟨by decide,λV4 l4 m4 b4 V5 l5 hb4 => ?_⟩
   have hG:K00 5 numC V5 ⟨some (Addr.mk b4 0 none),t,t⟩ (matL t m (rawC rs m)):=hR.knownL numC.le hol (View.le_trans l4 l5) (λb cs g=>l5 _ _ (m4 _ _ g)) hb4
   refine(Q05 hG).mono λv V6 l6 ⟨g,hv,hg⟩=>⟨g,_,hv,?_⟩
   rw[y0b _ (by omega) (by omega) (by omega) (by omega)]at hg
   refine(i09 cm).mono λv V7 l7 ⟨w,hv,h7⟩=>⟨w,_,hv,?_⟩
   refine(i09 cn).mono λv V8 l8 ⟨u,hv,h8⟩=>⟨u,_,hv,g,w,u,rfl,K00.le numC.le (View.le_trans l7 l8) hg,?_,?_⟩
   . rw[<-k2]; exact h7.le l8
   . rw[<-k1]; exact h8
def bitB(p:Int)(t:Nat):Bool:=((IntKind.u16.wrap (BitVec.toNat ((BitVec.ofInt IntKind.u16.bits (Int.fdiv p (2^(min (Int.toNat ((t:Nat):Int)) (IntKind.bits .u16))))) &&& (BitVec.ofInt IntKind.u16.bits 1)))):Int)==1
theorem L0r{V:View}{g:k00}{rows:List (List Cq)}{p:Int}(h:K00 5 numC V g.rows rows)(n1:1<=rows.length)(n2:rows.length<=64)(w1:1<=K01 rows)(w2:K01 rows<=64) :
 a00 Tryz.prog z0d #[g.val,.int .u16 p] V λv V'=>∃k:k00,v=k.val/\K00 1 Go.Vc.boolC V' k.rows (matL rows.length (K01 rows) λi k=>bitB p (i*K01 rows+k)):=by
 obtain⟨R,eR⟩:∃R,R=rows.length:=⟨_,rfl⟩
 obtain⟨C,eC⟩:∃C,C=K01 rows:=⟨_,rfl⟩
 rw[<-eR]at n1 n2 ⊢
 rw[<-eC]at w1 w2 ⊢
 let K:Nat->Nat->Bool:=λi k=>bitB p (i*C+k)
 refine B0c g p V _
  (λ_ x V'=>∃t:Nat,x.t21=t/\t<=R/\x.o18.length=R/\w03 1 Go.Vc.boolC x.o0 V' x.o18 R (λi=>if i<t then rowL C (K i)else [])) (λ_ x _=>R-x.t21.toNat)
  (λc x V'=>∃t k:Nat,c.t8=t/\c.t21=t/\t<R/\x.t25=k/\k<=C/\x.o18.length=R/\w03 1 Go.Vc.boolC x.o0 V' x.o18 R (λi=>if i<t then rowL C (K i)else if i=t then rowL k (K t)else [])) (λ_ x _=>C-x.t25.toNat) ?_
 refine(z02 h).mono λv V1 l1 hv=>⟨_,_,hv,?_⟩
 rw[<-eR,<-eC,Int.toNat_natCast]
 refine⟨⟨by omega,by omega,by omega,by omega⟩,⟨0,rfl,by omega,by simp,?_⟩,?_⟩
 . rw[z0p]; exact(x0d V1 R).congr λi _=>by rw[if_neg (by omega)]
 rintro⟨t21,o0,o4,o18⟩ V2 l2 ⟨t,et,ht,hol,hR⟩
 dsimp only at et hol hR ⊢
 subst et
 refine⟨λhlt=>⟨⟨t,0,rfl,rfl,by have:=of_decide_eq_true hlt; omega,rfl,by omega,hol,hR.congr λi hi => ?_⟩,?_⟩,λhge => ?_⟩
 . by_cases e:i<t
   . rw[if_pos e,if_pos e]
   . rw[if_neg e,if_neg e]
     split<;>rfl
 . rintro⟨t25,o0',o18'⟩ V3 l3 ⟨t',k,et,_,htR,ek,hk,hol',hR'⟩
   dsimp only at et ek hol' hR' ⊢
   obtain rfl:t'=t:=by omega
   subst ek
   refine⟨λhlt2 => ?_,λhge2 => ?_⟩
   . have hkC:k<C:=by have:=of_decide_eq_true hlt2; omega
     have hb:t'*C<=64*64:=Nat.mul_le_mul (by omega) w2
     have ew:IntKind.i64.wrap ((IntKind.i64.wrap ((t':Int)*(C:Int)))+(k:Int))=((t'*C+k:Nat):Int):=by
      rw[<-Int.natCast_mul,i64w (n:=((t'*C:Nat):Int)) (by omega) (by omega),<-Int.natCast_add,i64w (by omega) (by omega)]
     obtain⟨s3,e3,q1,q2,q3,⟨o3,q4,q5,q6⟩,q7⟩:=hR'.row (i:=t') htR
     rw[if_neg (by omega),if_pos rfl]at q1 q6
     rw[m00]at q1
     rw[ew]
     refine⟨⟨by omega,by omega⟩,s3,by rw[Int.toNat_natCast,Nat.mul_one,Nat.zero_add]; exact e3,by omega,λb1 V4 l4 _ hb1 => ?_⟩
     have hnew:V4.has (some (Addr.mk b1 0 none)) [.bool (K t' k)]:=F04 (cs:=[.bool (K t' k)]) (j:=0) hb1 (λi v hv=>by rw[Nat.zero_add]; exact hv) rfl
     refine⟨o3,_,⟨q2,q3⟩,o0c l4 q4,q5,.inr hnew,rfl,oneL (V:=V4) (b:=K t' k) rfl,by unfold maxLen; omega,by omega,λ_ h2=>q7 1 (by omega) h2,λa1 c1 m1 ha=>⟨⟨by omega,by omega⟩,by rw[hol',Int.toNat_natCast]; omega,?_⟩⟩
     have:=(hR'.le Go.Vc.boolC.le l4).app (i:=t') htR e3 (z:=K t' k) rfl rfl (o':=o3) (by rw[if_neg (by omega),if_pos rfl]; exact q6.imp (Go.Vc.boolC.le l4)) ha
     rw[i64w (by omega) (by omega)]
     refine⟨⟨t',k+1,rfl,rfl,htR,by omega,by omega,by simp[hol'],?_⟩,by omega⟩
     have e1:(0+Int.toNat (t':Int)*1)=t':=by omega
     rw[e1]
     refine this.congr λi hi => ?_
     by_cases e:i=t'
     . subst e
       simp only[if_true,Nat.lt_irrefl,if_false]
       exact Y09 _ _
     . simp only[if_neg e]
   . have e:k=C:=by have:=of_decide_eq_false hge2; omega
     subst e
     rw[i64w (by omega) (by omega)]
     refine⟨⟨t'+1,by omega,by omega,hol',hR'.congr λi hi => ?_⟩,by omega⟩
     by_cases e:i<t'
     . rw[if_pos e,if_pos (by omega)]
     . rw[if_neg e]
       by_cases e2:i=t'
       . subst e2; rw[if_pos rfl,if_pos (by omega)]
       . rw[if_neg e2,if_neg (by omega)]
 . have e:t=R:=by have:=of_decide_eq_false hge; omega
   subst e
   refine⟨by decide,λV5 l5 m5 b4 V6 l6 hb4 => ?_⟩
   have hR2:w03 1 Go.Vc.boolC o0 V2 o18 t (λi=>rowL C (K i)):=hR.congr λi hi=>by rw[if_pos hi]
   have hG:K00 1 Go.Vc.boolC V6 ⟨some (Addr.mk b4 0 none),t,t⟩ (matL t C K):=hR2.knownL Go.Vc.boolC.le hol (View.le_trans l5 l6) (λb cs g=>l6 _ _ (m5 _ _ g)) hb4
   refine(w0f hG).mono λv V7 l7 ⟨r,hv,hr⟩=>⟨r,_,hv,r,rfl,?_⟩
   rw[y0b _ n1 n2 w1 w2]at hr
   exact hr
def twoQ:Cq:=⟨((2:Int):Rat),0⟩
def wtC(rs:List RatV)(i k:Nat):Cq:=if rs=[]then Cq.one else if ratQ (rnth rs ((i+5*k)%rs.length))=Cq.zero then twoQ else ratQ (rnth rs ((i+5*k)%rs.length))
theorem J0u:twoQ≠Cq.zero:=by decide
theorem M0r:Cq.one≠Cq.zero:=by decide
theorem N0t(rs:List RatV)(i k:Nat):wtC rs i k≠Cq.zero:=by
 unfold wtC
 split
 . exact M0r
 . split
   . exact J0u
   . assumption
theorem Z0m{k:Int}(h0:0<=k)(h:k<=255):(⟨(k:Rat),0⟩:Cq).sz<=64:=by
 refine(Rep.ofInt k).sz (k:=64) ?_ (by decide) (by decide)
 exact i05 (by omega)
theorem K0u:(⟨((1:Int):Rat),0⟩:Cq)=Cq.one:=rfl
theorem S0v{rs:List RatV}(h:∀r∈rs,ratI r)(i k:Nat):(wtC rs i k).sz<=64:=by
 unfold wtC
 split
 . exact Z0m (k:=1) (by decide) (by decide)
 . rename_i hne
   have:0<rs.length:=by cases rs with
    | nil=>exact absurd rfl hne
    | cons=>simp
   split
   . exact Z0m (k:=2) (by decide) (by decide)
   . exact W0c (n0k h (Nat.mod_lt _ this))
set_option maxHeartbeats 1000000 in
theorem L0l{V:View}{g:k00}{s:Sl}{rows:List (List Cq)}{rs:List RatV}(h:K00 5 numC V g.rows rows)(hr:Rect rows)(n1:1<=rows.length)(n2:rows.length<=64)(w1:1<=K01 rows)(w2:K01 rows<=64)(hs:H0d V s rs)(hi:∀r∈rs,ratI r) :
 a00 Tryz.prog F0b #[g.val,s.v] V λv V'=>∃k:k00,v=k.val/\K00 5 numC V' k.rows (matL rows.length (K01 rows) (wtC rs)):=by
 have hsl:s.len=rs.length:=hs.len
 obtain⟨R,eR⟩:∃R,R=rows.length:=⟨_,rfl⟩
 obtain⟨C,eC⟩:∃C,C=K01 rows:=⟨_,rfl⟩
 obtain⟨A,eA⟩:∃A,A=atG Cq.zero rows:=⟨_,rfl⟩
 have hcs:=Y0a (m:=λ_=>none) h hr n1 n2 w1 w2
 rw[<-eR,<-eC,<-eA]at hcs
 rw[<-eR]at n1 n2 ⊢
 rw[<-eC]at w1 w2 ⊢
 refine q0b g s V _
  (λc x V'=>∃t:Nat,c.t5.len=R/\x.t15=t/\t<=R/\MatX 5 numC x.o0 V' c.t5 R C (λi k=>if i<t then wtC rs i k else A i k) (λ_=>True)) (λ_ x _=>R-x.t15.toNat)
  (λc x V'=>∃t k:Nat,c.t6=t/\c.t15=t/\t<R/\x.t23=k/\k<=C/\MatX 5 numC x.o0 V' c.t5 R C (λi j=>if i<t\/(i=t/\j<k)then wtC rs i j else A i j) (λ_=>True)) (λ_ x _=>C-x.t23.toNat) ?_
 refine hcs.mono λv m1 V1 l1 _ ⟨r1,hv,hX,_⟩=>⟨r1,hv,⟨0,hX.len,rfl,by omega,(hX.congr λi k _ _=>by rw[if_neg (by omega)]).weaken λ_ _=>trivial⟩,?_⟩
 have er:=hX.len
 rw[er]
 rintro⟨t15,o0,o4⟩ V2 l2 ⟨t,_,et,ht,hM⟩
 dsimp only at et hM ⊢
 subst et
 refine⟨λhlt => ?_,λhge => ?_⟩
 . have hk:t<R:=by have:=of_decide_eq_true hlt; omega
   obtain⟨ha,s3,hs3,hl3,_⟩:=hM.row hk
   refine⟨⟨by omega,by omega,ha⟩,s3,.inl (by rw[Int.toNat_natCast]; exact hs3),⟨t,0,rfl,rfl,hk,rfl,by omega,hM.congr λi k _ _ => ?_⟩,?_⟩
   . by_cases c:i<t
     . rw[if_pos c,if_pos (.inl c)]
     . rw[if_neg c,if_neg (by omega)]
   rw[hl3]
   rintro⟨t23,o0'⟩ V3 l3 ⟨t',k,et,_,htR,ek,hkC,hM'⟩
   dsimp only at et ek hM' ⊢
   obtain rfl:t'=t:=by omega
   subst ek
   refine⟨λhlt2 => ?_,λhge2 => ?_⟩
   . have hk2:k<C:=by have:=of_decide_eq_true hlt2; omega
     obtain⟨ha',s7,hs7,hl7,ha7,_⟩:=hM'.row htR
     have fin:∀ {V':View} {y:NumV},View.le V3 V'->J01 V' y (wtC rs t' k)->∃(b c:Nat) (l:List Value),Option.map (λq=>Addr.add q (Int.toNat (k:Int)*5)) s7.a=some (Addr.mk b c none)/\o0' b=some l.toArray/\c+5<=l.length /\
      MatX 5 numC (i00 o0' b (setL l c y.val.cells.toList).toArray) V' r1 R C (λi j=>if i<t'\/(i=t'/\j<k+1)then wtC rs i j else A i j) (λ_=>True):=λ{V' y} hle hy=>by
      obtain⟨b,c,l,_,q1,q2,q3,q4⟩:=(hM'.le numC.le hle).put htR hk2 (y:=y.val.cells.toList) (z:=wtC rs t' k) rfl ⟨y,rfl,hy⟩ hs7
      rw[Int.toNat_natCast]
      refine⟨b,c,l,q1,q2,q3,q4.congr λi j _ _ => ?_⟩
      by_cases c1:i=t'/\j=k
      . obtain⟨rfl,rfl⟩:=c1
        rw[if_pos ⟨rfl,rfl⟩,if_pos (by omega)]
      . rw[if_neg c1]
        by_cases c2:i<t'\/(i=t'/\j<k)
        . rw[if_pos c2,if_pos (by omega)]
        . rw[if_neg c2,if_neg (by omega)]
     have e1:IntKind.i64.wrap ((t':Int)+(IntKind.i64.wrap (5*(k:Int))))=((t'+5*k:Nat):Int):=by rw[i64w (n:=5*(k:Int)) (by omega) (by omega),i64w (by omega) (by omega)]; omega
     rw[e1,i64w (n:=(k:Int)+1) (by omega) (by omega)]
     have inx:∀V',View.le V3 V'->True:=λ_ _=>trivial
     have sl7:s7.len=C:=hl7
     have ld7:∀V',x06 o0' V' (Option.map (λq=>Addr.add q (Int.toNat (t':Int)*1)) r1.a) s7.v:=λV' => .inl (by rw[Int.toNat_natCast]; exact hs7)
     refine(S06 (n:=1) (by decide) (by decide)).mono λv V4 l4 ⟨r2,hv,h2⟩=>⟨r2,hv,λhp => ?_,λhp => ?_⟩
     . have hp:0<rs.length:=by have:=of_decide_eq_true hp; omega
       have hne:rs≠[]:=λe=>by rw[e]at hp; simp at hp
       have hlt3:(t'+5*k)%rs.length<rs.length:=Nat.mod_lt _ hp
       rw[hsl,<-Int.ofNat_tmod]
       obtain⟨d1,x,hx,_,hh,hss⟩:=A00.get (hs.le (View.le_trans l1 (View.le_trans l2 (View.le_trans l3 l4)))) (t:=(((t'+5*k)%rs.length:Nat):Int)) (by omega) (z:=rnth rs ((t'+5*k)%rs.length)) (by rw[Int.toNat_natCast]; unfold rnth; simp[List.getD,hlt3])
       rw[hsl]at d1
       have hx:x=(rnth rs ((t'+5*k)%rs.length)).val.cells.toList:=hx
       subst hx
       have hok:=n0k hi hlt3
       refine⟨by omega,d1,_,.inr hh,hss,(P0c hok).mono λv V5 l5 ⟨y,hv,hy⟩=>⟨y,hv,(k08 hy (Nat.le_trans (W0c hok) (by omega))).mono λv V6 l6 hv=>⟨_,hv,λc => ?_,λc => ?_⟩⟩⟩
       . have c:ratQ (rnth rs ((t'+5*k)%rs.length))=Cq.zero:=by simpa using c
         refine(S06 (n:=2) (by decide) (by decide)).mono λv V7 l7 ⟨r5,hv,h5⟩=>⟨r5,hv,⟨by omega,by omega,ha'⟩,s7,ld7 _,⟨by omega,by omega,ha7 (by omega)⟩,?_⟩
         have hy7:J01 V7 r5 (wtC rs t' k):=by unfold wtC; rw[if_neg hne,if_pos c]; exact h5
         obtain⟨b,c',l,q1,q2,q3,q4⟩:=fin (View.le_trans l4 (View.le_trans l5 (View.le_trans l6 l7))) hy7
         exact⟨b,c',l,q1,q2,q3,⟨t',k+1,rfl,rfl,htR,by omega,by omega,q4⟩,by omega⟩
       . have c:¬ratQ (rnth rs ((t'+5*k)%rs.length))=Cq.zero:=by simpa using c
         refine⟨⟨by omega,by omega,ha'⟩,s7,ld7 _,⟨by omega,by omega,ha7 (by omega)⟩,?_⟩
         have hy7:J01 V6 y (wtC rs t' k):=by unfold wtC; rw[if_neg hne,if_neg c]; exact hy.le l6
         obtain⟨b,c',l,q1,q2,q3,q4⟩:=fin (View.le_trans l4 (View.le_trans l5 l6)) hy7
         exact⟨b,c',l,q1,q2,q3,⟨t',k+1,rfl,rfl,htR,by omega,by omega,q4⟩,by omega⟩
     . have hp:rs=[]:=List.length_eq_zero_iff.1 (by have:=of_decide_eq_false hp; omega)
       refine(k08 h2 (Nat.le_trans (Z0m (k:=1) (by decide) (by decide)) (by omega))).mono λv V8 l8 hv=>⟨_,hv,λc=>absurd c (by rw[K0u,decide_eq_true M0r]; simp),λ_ => ?_⟩
       refine⟨⟨by omega,by omega,ha'⟩,s7,ld7 _,⟨by omega,by omega,ha7 (by omega)⟩,?_⟩
       have hy7:J01 V8 r2 (wtC rs t' k):=by unfold wtC; rw[if_pos hp]; exact h2.le l8
       obtain⟨b,c',l,q1,q2,q3,q4⟩:=fin (View.le_trans l4 l8) hy7
       exact⟨b,c',l,q1,q2,q3,⟨t',k+1,rfl,rfl,htR,by omega,by omega,q4⟩,by omega⟩
   . have e:k=C:=by have:=of_decide_eq_false hge2; omega
     subst e
     rw[i64w (by omega) (by omega)]
     refine⟨⟨t'+1,rfl,by omega,by omega,hM'.congr λi j _ hj => ?_⟩,by omega⟩
     by_cases c:i<t'\/(i=t'/\j<k)
     . rw[if_pos c,if_pos (by omega)]
     . rw[if_neg c,if_neg (by omega)]
 . have e:t=R:=by have:=of_decide_eq_false hge; omega
   subst e
   refine⟨by decide,λV10 l10 m10 => ?_⟩
   have hG:K00 5 numC V10 r1 (matL t C (wtC rs)):=(hM.congr λi k hi _=>by rw[if_pos hi]).known (numC.le l10) m10
   refine(Q05 hG).mono λv V11 l11 ⟨r,hv,hr⟩=>⟨r,_,hv,r,rfl,?_⟩
   rw[y0b _ n1 n2 w1 w2]at hr
   exact hr
