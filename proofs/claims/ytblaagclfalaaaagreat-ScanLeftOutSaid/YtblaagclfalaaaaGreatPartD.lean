/- Part. -/
import Derived.Test.YtblaagclfalaaaaGreatPartC
import Derived.Deep.Slices
namespace Go.Proofs.YtblaagclfalaaaaGreat
open Go Go.Vc Go.Proofs
open Go.Proofs.Tryz (prog)
open Go.IntKind (i64 u64 u32 u8)
theorem k0g{V:View}{s t:Sl}{a b:Nat}(hs:s02 V s a)(ht:s02 V t b)(ha:wn a<=2^43)(hb:wn b<=2^43) :
 a00 prog d0r #[s.v,t.v] V λv V'=>∃r:Sl,v=r.v/\s02 V' r (Nat.gcd a b):=by
 refine C0p s t V _ (λ_ x V'=>∃a' b',s02 V' x.t0 a'/\s02 V' x.t1 b'/\wn a'<=2^43/\wn b'<=2^43/\Nat.gcd a' b'=Nat.gcd a b) (λ_ x V'=>b0j V' x.t1) ⟨⟨a,b,hs,ht,ha,hb,rfl⟩,?_⟩
 rintro⟨x,y⟩ V1 l1 ⟨a',b',hx,hy,wa,wb,hg⟩
 simp only at hx hy ⊢
 have hyl:=hy.len
 refine⟨λhp => ?_,λhp => ?_⟩
 . simp only[gt_iff_lt,decide_eq_true_eq]at hp
   have hb0:b'≠0:=λe=>by rw[<-hy.len_zero]at e; omega
   refine(O0a hx hy wa hb0).mono λv V2 l2 ⟨q,r,hv,hq,hr⟩=>⟨q,r,hv,?_⟩
   have hlt:a'%b'<b':=Nat.mod_lt _ (by omega)
   have hwr:wn (a'%b')<=wn b':=B0f (Nat.le_of_lt hlt)
   refine⟨⟨b',a'%b',hy.le l2,hr,wb,by omega,?_⟩,?_⟩
   . rw[Nat.gcd_comm,<-Nat.gcd_rec,Nat.gcd_comm]; exact hg
   . rw[K0e hr,K0e hy]; exact hlt
 . simp only[gt_iff_lt,decide_eq_false_iff_not]at hp
   have hb0:b'=0:=hy.len_zero.1 (by omega)
   subst hb0
   rw[Nat.gcd_zero_right]at hg
   exact⟨x,rfl,by rw[<-hg]; exact hx⟩
theorem E05{V:View}{s:Sl}{n:Nat}(neg:Bool)(h:s02 V s n) :
 a00 prog K0j #[.bool neg,s.v] V λv V'=>∃r:WhV,v=r.val/\l07 V' r (if neg=true then -(n:Int)else n):=by
 have hl:=h.len_zero
 refine e0i neg s V _ ⟨λhn=>⟨_,rfl,?_,?_⟩,λhn=>⟨_,rfl,?_,?_⟩⟩
 . rw[if_pos hn]; simp only[gt_iff_lt,decide_eq_decide]; omega
 . rw[if_pos hn]; simpa using h
 . rw[if_neg (by simp[hn])]; symm; simp only[decide_eq_false_iff_not]; omega
 . rw[if_neg (by simp[hn])]; simpa using h
theorem K09{V:View}{n:Int}(h0 : -9223372036854775808<=n)(h1:n<=9223372036854775807) :
 a00 prog l0p #[.int .i64 n] V λv V'=>∃r:WhV,v=r.val/\l07 V' r n:=by
 refine P0m n V _ ⟨λhn => ?_,λhn => ?_⟩
 . simp only[decide_eq_true_eq]at hn
   have e:u64.wrap (0-u64.wrap n) = -n:=by rw[u64m,u64m]; omega
   rw[e]
   refine(e0b (by omega) (by omega)).mono λv V1 _ ⟨r,hv,hr⟩=>⟨r,hv,_,rfl,by simp[hn],?_⟩
   have e2:n.natAbs=(-n).toNat:=by omega
   rw[e2]; exact hr
 . simp only[decide_eq_false_iff_not]at hn
   rw[u64w (by omega) (by omega)]
   refine(e0b (by omega) (by omega)).mono λv V1 _ ⟨r,hv,hr⟩=>⟨r,hv,_,rfl,by simp[hn],?_⟩
   have e2:n.natAbs=n.toNat:=by omega
   rw[e2]; exact hr
theorem b04{V:View}{x:WhV}{a:Int}(h:l07 V x a) :
 a00 prog J0j #[x.val] V λv V'=>∃r:WhV,v=r.val/\l07 V' r (-a):=by
 refine f0i x V _ ((E05 (!x.neg) h.2).mono λv V1 _ ⟨r,hv,hr⟩=>⟨r,hv,r,rfl,?_⟩)
 have e:(if(!x.neg)=true then -(a.natAbs:Int)else(a.natAbs:Int)) = -a:=by
  rw[h.1]; simp only[Bool.not_eq_true',decide_eq_false_iff_not]; split<;>omega
 rw[e]at hr; exact hr
theorem w05{V:View}{x y:WhV}{a b:Int}(hx:l07 V x a)(hy:l07 V y b)(ha:wn a.natAbs<=2^43)(hb:wn b.natAbs<=2^43) :
 a00 prog f0l #[x.val,y.val] V λv V'=>∃r:WhV,v=r.val/\l07 V' r (a+b):=by
 have h1:=hx.1
 have h2:=hy.1
 refine P0j x y V _ ⟨λhs => ?_,λhs => ?_⟩
 . refine(L0l hx.2 hy.2 (by omega) (by omega)).mono λv V1 l1 ⟨r,hv,hr⟩=>⟨r,hv,?_⟩
   refine(E05 x.neg hr).mono λv V2 _ ⟨w,hv,hw⟩=>⟨w,hv,w,rfl,?_⟩
   have e:(if x.neg=true then -((a.natAbs+b.natAbs:Nat):Int)else((a.natAbs+b.natAbs:Nat):Int))=a+b:=by
    rw[h1,h2]at hs; rw[h1]
    by_cases p:a<0<;>by_cases q:b<0<;>simp[p,q]at hs ⊢<;>omega
   rw[e]at hw; exact hw
 . refine(Y0c hx.2 hy.2 (by omega)).mono λv V1 l1 hv=>⟨_,hv,λhc => ?_,λhc => ?_⟩
   . have hc:b.natAbs<=a.natAbs:=by
       rcases Nat.lt_or_ge a.natAbs b.natAbs with h|h
       . rw[if_pos h]at hc; simp at hc
       . exact h
     refine(i0g (hx.2.le l1) (hy.2.le l1) (by omega) hc).mono λv V2 l2 ⟨r,hv,hr⟩=>⟨r,hv,?_⟩
     refine(E05 x.neg hr).mono λv V3 _ ⟨w,hv,hw⟩=>⟨w,hv,w,rfl,?_⟩
     have e:(if x.neg=true then -((a.natAbs-b.natAbs:Nat):Int)else((a.natAbs-b.natAbs:Nat):Int))=a+b:=by
      rw[h1,h2]at hs; rw[h1]
      by_cases p:a<0<;>by_cases q:b<0<;>simp[p,q]at hs ⊢<;>omega
     rw[e]at hw; exact hw
   . have hc:a.natAbs<=b.natAbs:=by
       rcases Nat.lt_or_ge b.natAbs a.natAbs with h|h
       . rw[if_neg (by omega),if_neg (by omega)]at hc; simp at hc
       . exact h
     refine(i0g (hy.2.le l1) (hx.2.le l1) (by omega) hc).mono λv V2 l2 ⟨r,hv,hr⟩=>⟨r,hv,?_⟩
     refine(E05 y.neg hr).mono λv V3 _ ⟨w,hv,hw⟩=>⟨w,hv,w,rfl,?_⟩
     have e:(if y.neg=true then -((b.natAbs-a.natAbs:Nat):Int)else((b.natAbs-a.natAbs:Nat):Int))=a+b:=by
      rw[h1,h2]at hs; rw[h2]
      by_cases p:a<0<;>by_cases q:b<0<;>simp[p,q]at hs ⊢<;>omega
     rw[e]at hw; exact hw
theorem D0t(x y a b:Int)(hx:x=if a<0 then -1 else 1)(hy:y=if b<0 then -1 else 1):a*b=x*y*(a.natAbs*b.natAbs:Nat):=by
 have ha:a=x*a.natAbs:=by rw[hx]; split<;>omega
 have hb:b=y*b.natAbs:=by rw[hy]; split<;>omega
 rw[Int.natCast_mul]
 conv=>lhs; rw[ha,hb]
 grind
theorem c04{V:View}{x y:WhV}{a b:Int}(hx:l07 V x a)(hy:l07 V y b)(ha:wn a.natAbs<=2^43)(hb:wn b.natAbs<=2^43) :
 a00 prog I0j #[x.val,y.val] V λv V'=>∃r:WhV,v=r.val/\l07 V' r (a*b):=by
 refine g0i x y V _ ((I07 hx.2 hy.2 (by omega) (by omega)).mono λv V1 l1 ⟨r,hv,hr⟩=>⟨r,hv,?_⟩)
 refine(E05 (!(x.neg==y.neg)) hr).mono λv V2 _ ⟨w,hv,hw⟩=>⟨w,hv,w,rfl,?_⟩
 have e:(if(!(x.neg==y.neg))=true then -((a.natAbs*b.natAbs:Nat):Int)else((a.natAbs*b.natAbs:Nat):Int))=a*b:=by
  rw[D0t _ _ a b rfl rfl,hx.1,hy.1]
  by_cases p:a<0<;>by_cases q:b<0<;>simp[p,q]
 rw[e]at hw; exact hw
theorem G02{V:View}{x:WhV}{s:Sl}{a:Int}{n:Nat}(hx:l07 V x a)(hs:s02 V s n)(ha:wn a.natAbs<=2^43)(hb:wn n<=2^43) :
 a00 prog b0i #[x.val,s.v] V λv V'=>∃r:WhV,v=r.val/\l07 V' r (a*n):=by
 refine j0h x s V _ ((I07 hx.2 hs (by omega) (by omega)).mono λv V1 l1 ⟨r,hv,hr⟩=>⟨r,hv,?_⟩)
 refine(E05 x.neg hr).mono λv V2 _ ⟨w,hv,hw⟩=>⟨w,hv,w,rfl,?_⟩
 have e:(if x.neg=true then -((a.natAbs*n:Nat):Int)else((a.natAbs*n:Nat):Int))=a*n:=by
  conv=>rhs; rw[hx.val]
  rw[Int.natCast_mul]; split
  . rw[Int.neg_mul]
  . rfl
 rw[e]at hw; exact hw
theorem E08{V:View}{x y:WhV}{a b:Int}(hx:l07 V x a)(hy:l07 V y b)(ha:wn a.natAbs<=2^43)(hb:wn b.natAbs<=2^43) :
 a00 prog J0m #[x.val,y.val] V λv _=>v = .int .i64 (cmpZ a b):=by
 refine q0l x y V _ ((b04 hy).mono λv V1 l1 ⟨r,hv,hr⟩=>⟨r,hv,?_⟩)
 refine(w05 (hx.le l1) hr ha (by rw[Int.natAbs_neg]; exact hb)).mono λv V2 l2 ⟨w,hv,hw⟩=>⟨w,hv,λh => ?_,λh => ?_⟩
 . have:a + -b<0:=by have:=hw.1; rw[h]at this; simpa using this
   rw[M0u (by omega)]
 . have h1:¬a + -b<0:=by have:=hw.1; rw[h]at this; simpa using this
   have h2:=hw.2.len_zero
   by_cases e:a=b
   . have:w.mag.len=0:=h2.2 (by omega)
     rw[N0u e,this]; rfl
   . have:w.mag.len≠0:=λh=>by have:=h2.1 h; omega
     rw[O0u (by omega)]
     congr 1; split<;>omega
theorem X05{V:View}{x y:WhV}{s:Sl}{z:Cq}{a b:Int}{d:Nat}(hx:l07 V x a)(hy:l07 V y b)(hs:s02 V s d)(hz:Rep z a b d)(ha:wn a.natAbs<=2^43)(hb:wn b.natAbs<=2^43)(hd:wn d<=2^43) :
 a00 prog n0p #[x.val,y.val,s.v] V λv V'=>∃r:NumV,v=r.val/\l01 V' r z:=by
 obtain⟨e1,e2,e3⟩:=hz.eqs
 have hp:=c0k a b hz.pos
 have d1:=L0e a b d
 have d2:=q0h a b d
 have d3:=D0l a b d
 refine Q0m x y s V _ ((k0g hx.2 hy.2 ha hb).mono λv V1 l1 ⟨r1,hv,h1⟩=>⟨r1,hv,?_⟩)
 have hw1:wn (Nat.gcd a.natAbs b.natAbs)<=2^43:=by
  rcases Nat.eq_zero_or_pos a.natAbs with h|h
  . rw[h,Nat.gcd_zero_left]; exact hb
  . exact Nat.le_trans (B0f (Nat.le_of_dvd h (Nat.gcd_dvd_left _ _))) ha
 refine(k0g h1 (hs.le l1) hw1 hd).mono λv V2 l2 ⟨r2,hv,h2⟩=>⟨r2,hv,?_⟩
 have hg:Nat.gcd (Nat.gcd a.natAbs b.natAbs) d=gcd3 a b d:=rfl
 rw[hg]at h2
 refine(X0c h2).mono λv V3 l3 hv=>⟨_,hv,λhn => ?_,λhn => ?_⟩
 . have l13:=View.le_trans l1 (View.le_trans l2 l3)
   refine(O0a (hx.2.le l13) (h2.le l3) ha (by omega)).mono λv V4 l4 ⟨q1,m1,hv,hq1,_⟩=>⟨q1,m1,hv,?_⟩
   refine(O0a (hy.2.le (View.le_trans l13 l4)) (h2.le (View.le_trans l3 l4)) hb (by omega)).mono λv V5 l5 ⟨q2,m2,hv,hq2,_⟩=>⟨q2,m2,hv,?_⟩
   have l45:=View.le_trans l4 l5
   refine(O0a (hs.le (View.le_trans l13 l45)) (h2.le (View.le_trans l3 l45)) hd (by omega)).mono λv V6 l6 ⟨q3,m3,hv,hq3,_⟩=>⟨q3,m3,hv,?_⟩
   have f1:l07 V6 (WhV.mk x.neg q1) z.A:=⟨by rw[e1,e0e d1 hp]; exact hx.1,by rw[e1,B08 d1]; exact hq1.le (View.le_trans l5 l6)⟩
   have f2:l07 V6 (WhV.mk y.neg q2) z.B:=⟨by rw[e2,e0e d2 hp]; exact hy.1,by rw[e2,B08 d2]; exact hq2.le l6⟩
   refine(X0c hq3).mono λv V7 l7 hv=>⟨_,hv,λh=>⟨_,rfl,f1.le l7,f2.le l7,?_⟩,λh=>⟨_,rfl,f1.le l7,f2.le l7,?_⟩⟩
   . simp only[decide_eq_true_eq]at h
     rw[e3,if_pos h]; exact s02.zero V7
   . simp only[decide_eq_false_iff_not]at h
     rw[e3,if_neg h]; exact hq3.le l7
 . simp only[Bool.not_eq_false',decide_eq_true_eq]at hn
   rw[hn]at e1 e2 e3
   simp only[Int.natCast_one,Int.ediv_one]at e1 e2
   rw[Nat.div_one]at e3
   have l13:=View.le_trans l1 (View.le_trans l2 l3)
   refine(X0c (hs.le l13)).mono λv V7 l7 hv=>⟨_,hv,λh=>⟨_,rfl,?_,?_,?_⟩,λh=>⟨_,rfl,?_,?_,?_⟩⟩
   . rw[e1]; exact hx.le (View.le_trans l13 l7)
   . rw[e2]; exact hy.le (View.le_trans l13 l7)
   . simp only[decide_eq_true_eq]at h
     rw[e3,if_pos h]; exact s02.zero V7
   . rw[e1]; exact hx.le (View.le_trans l13 l7)
   . rw[e2]; exact hy.le (View.le_trans l13 l7)
   . simp only[decide_eq_false_iff_not]at h
     rw[e3,if_neg h]; exact hs.le (View.le_trans l13 l7)
theorem H02{V:View}{x:NumV}{z:Cq}(h:l01 V x z):a00 prog Z0q #[x.val] V λv V'=>∃r:Sl,v=r.v/\s02 V' r z.D:=by
 have hu:=h.under
 have hl:=hu.len_zero
 have hD:=z.D_pos
 refine D0p x V _ ⟨λh0 => ?_,λh0 => ?_⟩
 . have h0:x.under.len=0:=by have:(x.under.len:Int)=0:=(by simpa using h0); omega
   intro b V1 l1 _ hb
   have hz:=hl.1 h0
   have h1:z.D=1:=by split at hz<;>omega
   refine⟨_,rfl,?_⟩
   rw[h1]
   have:dig 1=[1]:=by rw[k07 (by omega)]; simp[W05]
   unfold s02; rw[this]
   exact U03.of_block (by rw[hb]; rfl) rfl (Nat.le_refl _) (by intro d hd; simp at hd; omega)
 . have h0:x.under.len≠0:=by have:¬(x.under.len:Int)=0:=(by simpa using h0); omega
   refine⟨_,rfl,?_⟩
   have hz:¬(if z.D=1 then 0 else z.D)=0:=λe=>h0 (hl.2 e)
   split at hz
   . omega
   . rename_i h1; rw[if_neg h1]at hu; exact hu
theorem Y05{V:View}{n:Int}(h0 : -9223372036854775808<=n)(h1:n<=9223372036854775807) :
 a00 prog b0l #[.int .i64 n] V λv V'=>∃r:NumV,v=r.val/\l01 V' r ⟨(n:Rat),0⟩:=by
 obtain⟨e1,e2,e3⟩:=s0g n
 refine E0p n V _ ((K09 h0 h1).mono λv V1 _ ⟨r,hv,hr⟩=>⟨r,hv,_,rfl,by rw[e1]; exact hr,by rw[e2]; exact l07.zero _,by rw[e3]; exact s02.zero _⟩)
theorem wn64{n:Nat}(h:n<=18446744073709551615):wn n<=2^43:=by
 have:wn n<=2:=Z06 (by omega)
 omega
theorem Y08{V:View}{p q d:Int}(p0 : -9223372036854775808<=p)(p1:p<=9223372036854775807)(q0 : -9223372036854775808<=q)(q1:q<=9223372036854775807)(d0 : -9223372036854775808<=d)(d1:d<=9223372036854775807)(hd:d≠0) :
 a00 prog X0q #[.int .i64 p,.int .i64 q,.int .i64 d] V λv V'=>∃r:NumV,v = .tuple #[r.val,.int .i64 0]/\l01 V' r ⟨(p:Rat) / (d:Rat),(q:Rat) / (d:Rat)⟩:=by
 refine F0p p q d V _ ⟨λh => ?_,λ_ => ?_⟩
 . exact absurd (by simpa using h) hd
 refine(K09 p0 p1).mono λv V1 l1 ⟨a,hv,ha⟩=>⟨a,hv,?_⟩
 refine(K09 q0 q1).mono λv V2 l2 ⟨b,hv,hb⟩=>⟨b,hv,?_⟩
 refine(K09 d0 d1).mono λv V3 l3 ⟨c,hv,hc⟩=>⟨c,hv,λhn => ?_,λhn => ?_⟩
 . have hneg:d<0:=by have:=hc.1; rw[hn]at this; simpa using this.symm
   refine(b04 (ha.le (View.le_trans l2 l3))).mono λv V4 l4 ⟨a',hv,ha'⟩=>⟨a',hv,?_⟩
   refine(b04 (hb.le (View.le_trans l3 l4))).mono λv V5 l5 ⟨b',hv,hb'⟩=>⟨b',hv,?_⟩
   refine(X05 (ha'.le l5) hb' (hc.2.le (View.le_trans l4 l5)) ?_ (wn64 (by omega)) (wn64 (by omega)) (wn64 (by omega))).mono λv V6 l6 ⟨r,hv,hr⟩=>⟨r,hv,r,rfl,hr⟩
   have e:((d.natAbs:Nat):Rat) = -(d:Rat):=by
    have:(d.natAbs:Int) = -d:=by omega
    rw[<-Rat.intCast_natCast,this]; push_cast; rfl
   refine⟨by omega,?_,?_⟩<;>(simp only[e]; push_cast; rw[Rat.div_def,Rat.div_def]; grind)
 . have hpos:¬d<0:=by have:=hc.1; rw[hn]at this; simpa using this.symm
   refine(X05 (ha.le (View.le_trans l2 l3)) (hb.le l3) hc.2 ?_ (wn64 (by omega)) (wn64 (by omega)) (wn64 (by omega))).mono λv V6 l6 ⟨r,hv,hr⟩=>⟨r,hv,r,rfl,hr⟩
   have e:((d.natAbs:Nat):Rat)=(d:Rat):=by
    have:(d.natAbs:Int)=d:=by omega
    rw[<-Rat.intCast_natCast,this]
   refine⟨by omega,?_,?_⟩<;>simp only[e]
theorem Cq.wA{z:Cq}(h:z.sz<=2^40):wn z.A.natAbs<=2^35:=e0k (by have:=z.szA; omega)
theorem Cq.wB{z:Cq}(h:z.sz<=2^40):wn z.B.natAbs<=2^35:=e0k (by have:=z.szB; omega)
theorem Cq.wD{z:Cq}(h:z.sz<=2^40):wn z.D<=2^35:=e0k (by have:=z.szD; omega)
theorem H06{a b:Int}{k:Nat}(ha:wn a.natAbs<=k)(hb:wn b.natAbs<=k):wn (a*b).natAbs<=2*k:=by
 rw[Int.natAbs_mul]; have:=O0c a.natAbs b.natAbs; omega
theorem H0f{a b:Int}{k:Nat}(ha:wn a.natAbs<=k)(hb:wn b.natAbs<=k):wn (a+b).natAbs<=k+1:=by
 have:=B0f (Int.natAbs_add_le a b); have:=m0r a.natAbs b.natAbs; omega
theorem c0v{a:Int}{k:Nat}(ha:wn a.natAbs<=k):wn (-a).natAbs<=k:=by rw[Int.natAbs_neg]; exact ha
theorem Z05{V:View}{x y:NumV}{z w:Cq}(hx:l01 V x z)(hy:l01 V y w)(hz:z.sz<=2^40)(hw:w.sz<=2^40) :
 a00 prog Y0q #[x.val,y.val] V λv V'=>∃r:NumV,v=r.val/\l01 V' r (z+w):=by
 have zA:=Cq.wA hz; have zB:=Cq.wB hz; have zD:=Cq.wD hz
 have wA:=Cq.wA hw; have wB:=Cq.wB hw; have wD:=Cq.wD hw
 have zD':wn (z.D:Int).natAbs<=2^35:=zD
 have wD':wn (w.D:Int).natAbs<=2^35:=wD
 have s1:=H06 zA wD'; have s2:=H06 wA zD'; have s3:=H06 zB wD'; have s4:=H06 wB zD'
 have s5:=H0f s1 s2; have s6:=H0f s3 s4
 have s7:=O0c z.D w.D
 refine G0p x y V _ ((H02 hx).mono λv V1 l1 ⟨r1,hv,h1⟩=>⟨r1,hv,?_⟩)
 replace hx:=hx.le l1; replace hy:=hy.le l1
 refine(H02 hy).mono λv V2 l2 ⟨r2,hv,h2⟩=>⟨r2,hv,?_⟩
 replace hx:=hx.le l2; replace hy:=hy.le l2; replace h1:=h1.le l2
 refine(G02 hx.re h2 (by omega) (by omega)).mono λv V3 l3 ⟨r3,hv,h3⟩=>⟨r3,hv,?_⟩
 replace hx:=hx.le l3; replace hy:=hy.le l3; replace h1:=h1.le l3; replace h2:=h2.le l3
 refine(G02 hy.re h1 (by omega) (by omega)).mono λv V4 l4 ⟨r4,hv,h4⟩=>⟨r4,hv,?_⟩
 replace hx:=hx.le l4; replace hy:=hy.le l4; replace h1:=h1.le l4; replace h2:=h2.le l4; replace h3:=h3.le l4
 refine(w05 h3 h4 (by omega) (by omega)).mono λv V5 l5 ⟨r5,hv,h5⟩=>⟨r5,hv,?_⟩
 replace hx:=hx.le l5; replace hy:=hy.le l5; replace h1:=h1.le l5; replace h2:=h2.le l5
 refine(G02 hx.im h2 (by omega) (by omega)).mono λv V6 l6 ⟨r6,hv,h6⟩=>⟨r6,hv,?_⟩
 replace hy:=hy.le l6; replace h1:=h1.le l6; replace h2:=h2.le l6; replace h5:=h5.le l6
 refine(G02 hy.im h1 (by omega) (by omega)).mono λv V7 l7 ⟨r7,hv,h7⟩=>⟨r7,hv,?_⟩
 replace h1:=h1.le l7; replace h2:=h2.le l7; replace h5:=h5.le l7; replace h6:=h6.le l7
 refine(w05 h6 h7 (by omega) (by omega)).mono λv V8 l8 ⟨r8,hv,h8⟩=>⟨r8,hv,?_⟩
 replace h1:=h1.le l8; replace h2:=h2.le l8; replace h5:=h5.le l8
 refine(I07 h1 h2 (by omega) (by omega)).mono λv V9 l9 ⟨r9,hv,h9⟩=>⟨r9,hv,?_⟩
 exact(X05 (h5.le l9) (h8.le l9) h9 (z.canon.rep.add w.canon.rep) (by omega) (by omega) (by omega)).mono λv V10 _ ⟨r,hv,hr⟩=>⟨r,hv,r,rfl,hr⟩
theorem l0g{V:View}{x:NumV}{z:Cq}(hx:l01 V x z):a00 prog c0r #[x.val] V λv V'=>∃r:NumV,v=r.val/\l01 V' r (-z):=by
 obtain⟨e1,e2,e3⟩:=z.neg_eqs
 refine H0p x V _ ((b04 hx.re).mono λv V1 l1 ⟨r1,hv,h1⟩=>⟨r1,hv,?_⟩)
 exact(b04 (hx.im.le l1)).mono λv V2 l2 ⟨r2,hv,h2⟩=>⟨r2,hv,_,rfl,by rw[e1]; exact h1.le l2,by rw[e2]; exact h2,by rw[e3]; exact hx.under.le (View.le_trans l1 l2)⟩
theorem f0c{V:View}{x:NumV}{z:Cq}(hx:l01 V x z):a00 prog s0p #[x.val] V λv V'=>∃r:NumV,v=r.val/\l01 V' r z.conj:=by
 obtain⟨e1,e2,e3⟩:=z.conj_eqs
 exact U0m x V _ ((b04 hx.im).mono λv V1 l1 ⟨r1,hv,h1⟩=>⟨r1,hv,_,rfl,by rw[e1]; exact hx.re.le l1,by rw[e2]; exact h1,by rw[e3]; exact hx.under.le l1⟩)
theorem c07{V:View}{x y:NumV}{z w:Cq}(hx:l01 V x z)(hy:l01 V y w)(hz:z.sz<=2^40)(hw:w.sz<=2^40) :
 a00 prog e0h #[x.val,y.val] V λv V'=>∃r:NumV,v=r.val/\l01 V' r (z-w):=by
 refine I0p x y V _ ((l0g hy).mono λv V1 l1 ⟨r1,hv,h1⟩=>⟨r1,hv,?_⟩)
 rw[o0m]
 exact(Z05 (hx.le l1) h1 hz (by rw[n0m]; exact hw)).mono λv V2 _ ⟨r,hv,hr⟩=>⟨r,hv,r,rfl,hr⟩
theorem e03{V:View}{x y:NumV}{z w:Cq}(hx:l01 V x z)(hy:l01 V y w)(hz:z.sz<=2^40)(hw:w.sz<=2^40) :
 a00 prog f0h #[x.val,y.val] V λv V'=>∃r:NumV,v=r.val/\l01 V' r (z*w):=by
 have zA:=Cq.wA hz; have zB:=Cq.wB hz; have zD:=Cq.wD hz
 have wA:=Cq.wA hw; have wB:=Cq.wB hw; have wD:=Cq.wD hw
 have s1:=H06 zA wA; have s2:=H06 zB wB; have s2':=c0v s2; have s3:=H06 zA wB; have s4:=H06 zB wA
 have s5:=H0f s1 s2'; have s6:=H0f s3 s4
 have s7:=O0c z.D w.D
 refine J0p x y V _ ((c04 hx.re hy.re (by omega) (by omega)).mono λv V1 l1 ⟨r1,hv,h1⟩=>⟨r1,hv,?_⟩)
 replace hx:=hx.le l1; replace hy:=hy.le l1
 refine(c04 hx.im hy.im (by omega) (by omega)).mono λv V2 l2 ⟨r2,hv,h2⟩=>⟨r2,hv,?_⟩
 replace hx:=hx.le l2; replace hy:=hy.le l2; replace h1:=h1.le l2
 refine(b04 h2).mono λv V3 l3 ⟨r3,hv,h3⟩=>⟨r3,hv,?_⟩
 replace hx:=hx.le l3; replace hy:=hy.le l3; replace h1:=h1.le l3
 refine(w05 h1 h3 (by omega) (by omega)).mono λv V4 l4 ⟨r4,hv,h4⟩=>⟨r4,hv,?_⟩
 replace hx:=hx.le l4; replace hy:=hy.le l4
 refine(c04 hx.re hy.im (by omega) (by omega)).mono λv V5 l5 ⟨r5,hv,h5⟩=>⟨r5,hv,?_⟩
 replace hx:=hx.le l5; replace hy:=hy.le l5; replace h4:=h4.le l5
 refine(c04 hx.im hy.re (by omega) (by omega)).mono λv V6 l6 ⟨r6,hv,h6⟩=>⟨r6,hv,?_⟩
 replace hx:=hx.le l6; replace hy:=hy.le l6; replace h4:=h4.le l6; replace h5:=h5.le l6
 refine(w05 h5 h6 (by omega) (by omega)).mono λv V7 l7 ⟨r7,hv,h7⟩=>⟨r7,hv,?_⟩
 replace hx:=hx.le l7; replace hy:=hy.le l7; replace h4:=h4.le l7
 refine(H02 hx).mono λv V8 l8 ⟨r8,hv,h8⟩=>⟨r8,hv,?_⟩
 replace hy:=hy.le l8; replace h4:=h4.le l8; replace h7:=h7.le l8
 refine(H02 hy).mono λv V9 l9 ⟨r9,hv,h9⟩=>⟨r9,hv,?_⟩
 replace h4:=h4.le l9; replace h7:=h7.le l9; replace h8:=h8.le l9
 refine(I07 h8 h9 (by omega) (by omega)).mono λv V10 l10 ⟨r10,hv,h10⟩=>⟨r10,hv,?_⟩
 refine(X05 (h4.le l10) (h7.le l10) h10 ?_ (by omega) (by omega) (by omega)).mono λv V11 _ ⟨r,hv,hr⟩=>⟨r,hv,r,rfl,hr⟩
 rw[<-Int.sub_eq_add_neg]; exact z.canon.rep.mul w.canon.rep
theorem L09{V:View}{x y:NumV}{z w:Cq}(hx:l01 V x z)(hy:l01 V y w)(hz:z.sz<=2^40)(hw:w.sz<=2^40) :
 a00 prog i0p #[x.val,y.val] V λv _=>v = .bool (decide (z=w)):=by
 have zA:=Cq.wA hz; have zB:=Cq.wB hz; have zD:=Cq.wD hz
 have wA:=Cq.wA hw; have wB:=Cq.wB hw; have wD:=Cq.wD hw
 refine S0m x y V _ ((E08 hx.re hy.re (by omega) (by omega)).mono λv V1 l1 hv=>⟨_,hv,λh1 => ?_,λh1=>⟨(λh=>by cases h),λ_ => ?_⟩⟩)
 . have h1:z.A=w.A:=M0e.1 (by simpa using h1)
   refine(E08 (hx.im.le l1) (hy.im.le l1) (by omega) (by omega)).mono λv V2 l2 hv=>⟨_,hv,λh2 => ?_,λh2 => ?_⟩
   . have h2:z.B=w.B:=M0e.1 (by simpa using h2)
     refine(Y0c (hx.under.le (View.le_trans l1 l2)) (hy.under.le (View.le_trans l1 l2)) ?_).mono λv V3 l3 hv=>⟨_,hv,?_⟩
     . split
       . rw[N0c]; omega
       . omega
     . have hD1:=z.D_pos
       have hD2:=w.D_pos
       congr 1
       by_cases e:z.D=w.D
       . have:z=w:=d0u h1 h2 e
         subst this; simp
       . have:z≠w:=by rintro rfl; exact e rfl
         simp only[this,decide_false]
         have h3:(if z.D=1 then 0 else z.D)≠(if w.D=1 then 0 else w.D):=by split<;>split<;>omega
         rw[if_neg h3]
         by_cases h:(if z.D=1 then 0 else z.D)<(if w.D=1 then 0 else w.D)
         . rw[if_pos h]; rfl
         . rw[if_neg h]; rfl
   . have h2:¬z.B=w.B:=λe=>by rw[M0e.2 e]at h2; simp at h2
     have:z≠w:=by rintro rfl; exact h2 rfl
     simp[this]
 . have h1:¬z.A=w.A:=λe=>by rw[M0e.2 e]at h1; simp at h1
   have:z≠w:=by rintro rfl; exact h1 rfl
   simp[this]
theorem y06{V:View}{x:NumV}{z:Cq}(hx:l01 V x z):a00 prog k0p #[x.val] V λv _=>v = .bool (decide (z.im=0)):=by
 refine T0m x V _ ?_
 have h1:=hx.im.2.len_zero
 have h2:=Cq.B_zero (z:=z)
 congr 1
 by_cases e:z.im=0
 . have:x.im.mag.len=0:=h1.2 (by rw[h2.2 e]; rfl)
   simp[e,this]
 . have:x.im.mag.len≠0:=λh=>e (h2.1 (by have:=h1.1 h; omega))
   simp only[e,decide_false,beq_eq_false_iff_ne,ne_eq]; omega
theorem b0d{V:View}{x y:NumV}{z w:Cq}(hx:l01 V x z)(hy:l01 V y w)(hz:z.sz<=2^40)(hw:w.sz<=2^40) :
 a00 prog U0q #[x.val,y.val] V λv _=>v = .int .i64 (z.cmp w):=by
 have zA:=Cq.wA hz; have zB:=Cq.wB hz; have zD:=Cq.wD hz
 have wA:=Cq.wA hw; have wB:=Cq.wB hw; have wD:=Cq.wD hw
 have zD':wn (z.D:Int).natAbs<=2^35:=zD
 have wD':wn (w.D:Int).natAbs<=2^35:=wD
 have s1:=H06 zA wD'; have s2:=H06 wA zD'; have s3:=H06 zB wD'; have s4:=H06 wB zD'
 have c1:cmpZ (z.A*w.D) (w.A*z.D)=cmpR z.re w.re:=by rw[o0u z.D_pos w.D_pos,<-z.canon.rep.re,<-w.canon.rep.re]
 have c2:cmpZ (z.B*w.D) (w.B*z.D)=cmpR z.im w.im:=by rw[o0u z.D_pos w.D_pos,<-z.canon.rep.im,<-w.canon.rep.im]
 refine K0p x y V _ ((H02 hy).mono λv V1 l1 ⟨r1,hv,h1⟩=>⟨r1,hv,?_⟩)
 replace hx:=hx.le l1; replace hy:=hy.le l1
 refine(G02 hx.re h1 (by omega) (by omega)).mono λv V2 l2 ⟨r2,hv,h2⟩=>⟨r2,hv,?_⟩
 replace hx:=hx.le l2; replace hy:=hy.le l2
 refine(H02 hx).mono λv V3 l3 ⟨r3,hv,h3⟩=>⟨r3,hv,?_⟩
 replace hx:=hx.le l3; replace hy:=hy.le l3; replace h2:=h2.le l3
 refine(G02 hy.re h3 (by omega) (by omega)).mono λv V4 l4 ⟨r4,hv,h4⟩=>⟨r4,hv,?_⟩
 replace hx:=hx.le l4; replace hy:=hy.le l4; replace h2:=h2.le l4
 refine(E08 h2 h4 (by omega) (by omega)).mono λv V5 l5 hv=>⟨_,hv,λhn => ?_,λhn => ?_⟩
 . rw[c1]at hn ⊢
   have hn:cmpR z.re w.re≠0:=by simpa using hn
   unfold Cq.cmp; rw[if_pos hn]
 . rw[c1]at hn
   have hn:¬cmpR z.re w.re≠0:=by simpa using hn
   replace hx:=hx.le l5; replace hy:=hy.le l5
   refine(H02 hy).mono λv V6 l6 ⟨r6,hv,h6⟩=>⟨r6,hv,?_⟩
   replace hx:=hx.le l6; replace hy:=hy.le l6
   refine(G02 hx.im h6 (by omega) (by omega)).mono λv V7 l7 ⟨r7,hv,h7⟩=>⟨r7,hv,?_⟩
   replace hx:=hx.le l7; replace hy:=hy.le l7
   refine(H02 hx).mono λv V8 l8 ⟨r8,hv,h8⟩=>⟨r8,hv,?_⟩
   replace hx:=hx.le l8; replace hy:=hy.le l8; replace h7:=h7.le l8
   refine(G02 hy.im h8 (by omega) (by omega)).mono λv V9 l9 ⟨r9,hv,h9⟩=>⟨r9,hv,?_⟩
   replace h7:=h7.le l9
   refine(E08 h7 h9 (by omega) (by omega)).mono λv V10 l10 hv=>⟨_,hv,?_⟩
   unfold Cq.cmp; rw[if_neg hn,c2]
theorem g0c{V:View}{x y:NumV}{w:Cq}(hy:l01 V y w):a00 prog b0t #[x.val,y.val] V λv V'=>∃r:NumV,v=r.val/\l01 V' r w :=
 l0r x y V _ ⟨y,rfl,hy⟩
def lenB(n:Nat):Bool:=[1,2,4,8,16,32,64].contains n
theorem d0v:∀n∈List.range 65,1<=n->(i64.wrap (BitVec.toNat ((BitVec.ofInt i64.bits (n:Int)) &&& (BitVec.ofInt i64.bits (i64.wrap ((n:Int)-1)))))==0)=lenB n:=by
 decide +kernel
theorem n0n{n:Nat}(h:lenB n=true):1<=n/\n<=64:=by
 simp[lenB]at h; omega
theorem d07{V:View}{n:Int}(h0:0<=n):a00 prog G0a #[.int .i64 n] V λv _=>v = .bool (lenB n.toNat):=by
 refine b0e n V _ ⟨λh1=>⟨λh2 => ?_,λh2 => ?_⟩,λh1=>⟨λh=>absurd h (by simp),λ_ => ?_⟩⟩
 . simp only[decide_eq_true_eq]at h1 h2
   have:=d0v n.toNat (by simp; omega) (by omega)
   rw[Int.toNat_of_nonneg h0]at this
   rw[this]
 . simp only[decide_eq_false_iff_not]at h2
   congr 1; symm
   rw[Bool.eq_false_iff]; intro e
   have:=n0n e; omega
 . simp only[decide_eq_false_iff_not]at h1
   congr 1; symm
   rw[Bool.eq_false_iff]; intro e
   have:=n0n e; omega
theorem n0a{V:View}(p q:Sl):a00 prog X0a #[p.v,q.v] V λv _=>v = .bool (lenB q.len&&decide (p.len=q.len)):=by
 refine y0a p q V _ ((d07 (Int.natCast_nonneg _)).mono λv V1 l1 hv=>⟨_,hv,λh => ?_,λh => ?_⟩)
 . rw[Int.toNat_natCast]at h
   rw[h,Bool.true_and]; congr 1
   rw[Bool.eq_iff_iff]; simp; omega
 . rw[Int.toNat_natCast]at h
   rw[h,Bool.false_and]
def ratQ(r:RatV):Cq:=if r.den=0 then⟨(r.re:Rat),(r.im:Rat)⟩else⟨(r.re:Rat) / (r.den:Rat),(r.im:Rat) / (r.den:Rat)⟩
def ratI(r:RatV):Prop:=(-9223372036854775808<=r.re/\r.re<=9223372036854775807)/\(-9223372036854775808<=r.im/\r.im<=9223372036854775807)/\(-9223372036854775808<=r.den/\r.den<=9223372036854775807)
def ratC(_:View)(x:List Value)(r:RatV):Prop:=x=r.val.cells.toList
def m0g(V:View)(s:Sl)(rs:List RatV):Prop:=y00 3 ratC V s rs
theorem m0g.le{V V':View}(hle:V.le V'){s:Sl}{rs:List RatV}(h:m0g V s rs):m0g V' s rs:=y00.le (P:=ratC) (V:=V) (V':=V') (λ_ _ h=>h) hle h
theorem n0g{V:View}{r:RatV}(h:ratI r):a00 prog W0q #[r.val] V λv V'=>∃x:NumV,v=x.val/\l01 V' x (ratQ r):=by
 obtain⟨⟨a1,a2⟩,⟨b1,b2⟩,⟨c1,c2⟩⟩:=h
 refine L0p r V _ ⟨λh0 => ?_,λh0 => ?_⟩
 . have h0:r.den=0:=by simpa using h0
   refine(Y08 a1 a2 b1 b2 (by omega) (by omega) (by omega)).mono λv V1 _ ⟨x,hv,hx⟩=>⟨x,0,hv,x,rfl,?_⟩
   have e:ratQ r=⟨(r.re:Rat) / ((1:Int):Rat),(r.im:Rat) / ((1:Int):Rat)⟩:=by
    unfold ratQ; rw[if_pos h0]; simp only[Rat.div_def,Cq.mk.injEq]; constructor<;>grind
   rw[e]; exact hx
 . have h0:r.den≠0:=by simpa using h0
   refine(Y08 a1 a2 b1 b2 c1 c2 h0).mono λv V1 _ ⟨x,hv,hx⟩=>⟨x,0,hv,x,rfl,?_⟩
   unfold ratQ; rw[if_neg h0]; exact hx
theorem C0h(r:NumV):∀v∈[Value.bool r.re.neg,r.re.mag.v,Value.bool r.im.neg,r.im.mag.v,r.under.v],Value.oneCell' v=true:=by
 intro v hv
 simp only[List.mem_cons,List.not_mem_nil,or_false]at hv
 rcases hv with rfl|rfl|rfl|rfl|rfl<;>rfl
theorem E0b{V:View}{b:Nat}{l:List Value}(h:V b=some l.toArray):V.has (some (Addr.mk b 0 none)) l:=by
 intro j v hj
 rw[G07 h]; simpa using hj
theorem n07{V:View}{s:Sl}{zs:List Cq}{a:Int}(h:l02 V s zs)(ha:0<=a)(ha1:a<=1)(hn:zs.length<=2^32)(hn1:1<=zs.length) :
 a00 prog x0a #[s.v,.int .i64 a] V λv V'=>∃r:Sl,v=r.v/\l02 V' r (a02 zs a.toNat):=by
 have hl:=h.len
 refine e0a s a V _ (λ_ x V'=>∃l,x.t6=a+2*x.t5l/\2*x.t5l+a.toNat<=zs.length+1/\C03 5 x.t5l x.t5c x.o5 l/\u05 V' l ((List.range x.t5l).map λk=>nth zs (a.toNat+2*k)))
  (λ_ x _=>zs.length+2-2*x.t5l) ⟨⟨[],by simp,by simp; omega,C03.nil,rfl⟩,?_⟩
 rintro⟨n,c,t,o⟩ V1 l1 ⟨l,ht,hm,hlo,hin⟩
 simp only at ht hm hlo hin ⊢
 refine⟨λhlt => ?_,λhge => ?_⟩
 . simp only[decide_eq_true_eq]at hlt
   obtain⟨hb,x,hx,hs,hnx⟩:=(h.le l1).get (t:=t) (by omega) (by omega)
   refine⟨hb,x,hx,hs,λb V2 l2 hf hV2 => ?_⟩
   refine⟨l,_,hlo,E0b (l:=[.bool x.re.neg,x.re.mag.v,.bool x.im.neg,x.im.mag.v,x.under.v]) hV2,rfl,C0h x,?_,?_,λc1 l3 hl3 => ?_⟩
   . simp only[maxLen]; omega
   . omega
   . have e:i64.wrap (t+2)=t+2:=i64w (by omega) (by omega)
     refine⟨⟨_,by rw[e]; simp; omega,by omega,hl3,?_⟩,by omega⟩
     rw[<-d0j]
     have e3:a.toNat+2*n=t.toNat:=by omega
     rw[e3]
     exact(hin.le l2).push (hnx.le l2)
 . simp only[decide_eq_false_iff_not]at hge
   intro b V3 l3 hb
   refine⟨_,rfl,?_⟩
   have e:n=(zs.length+1-a.toNat) / 2:=by omega
   unfold a02
   rw[<-e]
   exact z06 hlo hb (hin.le l3) (by simp)
theorem a06:∀(m:Nat) {V:View} {p w:Sl} {zs ws:List Cq} (S T:Nat),m<=6->zs.length=2^m->ws.length=2^m->l02 V p zs->l02 V w ws ->
 (∀i,i<2^m->(nth zs i).sz<=S)->(∀i,i<2^m->(nth ws i).sz<=T)->2^m*(S+T+2)<=2^39 ->
 F0d prog w0a #[p.v,w.v] M0i V λn cap l rest V'=>n=(n02 m zs ws).length/\cap=n/\rest=[]/\u05 V' l (n02 m zs ws)
 | m,V,p,w,zs,ws,S,T,hm,hz,hw,hp,hq,hS,hT,hsz=>by
   have hpl:=hp.len
   have hwl:=hq.len
   have hpow:2^m<=64:=Nat.pow_le_pow_right (n:=2) (by omega) hm
   have hpos:0<2^m:=Nat.pow_pos (by omega)
   rw[N02]
   refine f0a p w V _ (λc x V'=>∃m' zs' ws',m=m'+1/\zs'=n02 m' (a02 zs 0) (a02 ws 0)/\ws'=n02 m' (a02 zs 1) (a02 ws 0) /\
    l02 V' c.t8 zs'/\l02 V' c.t9 ws'/\0<=x.t36/\x.t36<=(2^m':Nat) /\
    u05 V' x.o15 (n0c (2^m') x.t36.toNat (λi=>nth zs' i+nth ws' i*nth ws i) (λi=>nth zs' i-nth ws' i*nth ws i)))
    (λ_ x _=>2^m-x.t36.toNat) ⟨⟨by omega,by omega,by omega,by omega⟩,λh1 => ?_,λh1 => ?_⟩
   . have h1:p.len=1:=by have:(p.len:Int)=1:=(by simpa using h1); omega
     have hm0:m=0:=by
      rcases Nat.eq_zero_or_pos m with h|h
      . exact h
      . have:2^1<=2^m:=Nat.pow_le_pow_right (by omega) h
        omega
     subst hm0
     obtain⟨hb,x,hx,hs,hnx⟩:=hp.get (t:=0) (by omega) (by simp[hz])
     have hset:=(u05.zeros V 1).set (i:=0) (by simp) hnx
     refine⟨hb,x,hx,hs,⟨by omega,by omega⟩,?_,?_,?_⟩
     . simp[h1]
     . refine⟨by simp[h1],?_⟩
       intro e
       have h5:=S01.length hset
       simp only[h1]at e
       have h6:(0:Nat)=5:=(congrArg List.length e).symm.trans h5
       omega
     . refine⟨by simp[h1],rfl,rfl,?_⟩
       simp only[h1]
       exact hset
   . have h1:p.len≠1:=by intro e; simp[e]at h1
     obtain ⟨m', rfl⟩ : ∃ m', m = m' + 1 := ⟨m - 1, by rcases Nat.eq_zero_or_pos m with h | h; · subst h; simp at hz; omega
                                                       . omega⟩
     have hp2:2^(m'+1)=2*2^m':=by rw[Nat.pow_succ]; omega
     have hmul:2^(m'+1)*(S+T+2)=2*(2^m'*(S+T+2)):=by rw[hp2,Nat.mul_assoc]
     have bz:∀a,a<=1->∀i,i<2^m'->(nth (a02 zs a) i).sz<=S:=by
      intro a ha i hi; rw[P09 (by omega)]; exact hS _ (by omega)
     have bw:∀i,i<2^m'->(nth (a02 ws 0) i).sz<=T:=by
      intro i hi; rw[P09 (by omega)]; exact hT _ (by omega)
     refine(n07 hq (Int.le_refl 0) (by omega) (by omega) (by omega)).mono λv V1 l1 ⟨r1,hv,hr1⟩=>⟨r1,hv,?_⟩
     refine(n07 (hp.le l1) (Int.le_refl 0) (by omega) (by omega) (by omega)).mono λv V2 l2 ⟨r2,hv,hr2⟩=>⟨r2,hv,?_⟩
     have ne:∀zs ws,n02 m' zs ws≠[]:=by
      intro zs ws e
      have:=N02 m' zs ws
      rw[e]at this; simp at this
      have:0<2^m':=Nat.pow_pos (by omega)
      omega
     refine(P0f (ne _ _) (a06 m' S T (by omega) (by simp[m03]; omega) (by simp[m03]; omega) hr2 (hr1.le l2) (bz 0 (by omega)) bw (by omega))).mono λv V3 l3 ⟨r3,hv,hr3⟩=>⟨r3,hv,?_⟩
     refine(n07 (hp.le (View.le_trans l1 (View.le_trans l2 l3))) (a:=1) (by omega) (by omega) (by omega) (by omega)).mono λv V4 l4 ⟨r4,hv,hr4⟩=>⟨r4,hv,?_⟩
     refine(P0f (ne _ _) (a06 m' S T (by omega) (by simp[m03]; omega) (by simp[m03]; omega) hr4 (hr1.le (View.le_trans l2 (View.le_trans l3 l4))) (bz 1 (by omega)) bw (by omega))).mono λv V5 l5 ⟨r5,hv,hr5⟩=>⟨r5,hv,?_⟩
     have le5:View.le V V5:=View.le_trans l1 (View.le_trans l2 (View.le_trans l3 (View.le_trans l4 l5)))
     have hdiv:i64.wrap (Int.tdiv (p.len:Int) 2)=((2^m':Nat):Int):=by
      have e:Int.tdiv (p.len:Int) 2=((2^m':Nat):Int):=by
       rw[Int.tdiv_eq_ediv_of_nonneg (by omega)]; omega
      rw[e]; exact i64w (by omega) (by omega)
     rw[hdiv]
     refine⟨⟨m',_,_,rfl,rfl,rfl,hr3.le (View.le_trans l4 l5),hr5,Int.le_refl 0,Int.natCast_nonneg _,?_⟩,?_⟩
     . simp only[Int.toNat_zero,g0n,Int.toNat_natCast,hpl,hz,hp2]
       exact u05.zeros _ _
     rintro⟨t,o⟩ V6 l6 ⟨m2,zs',ws',em,rfl,rfl,h8,h9,h0,h1',hin⟩
     have em:m'=m2:=by omega
     subst em
     simp only at h8 h9 h0 h1' hin ⊢
     have lz:=N02 m' (a02 zs 0) (a02 ws 0)
     have lw:=N02 m' (a02 zs 1) (a02 ws 0)
     have l8:=h8.len
     have l9:=h9.len
     have lo:∀k a b,(n0c (2^m') k a b).length=2*2^m':=by intro k a b; simp[n0c]
     refine⟨λhlt => ?_,λhge => ?_⟩
     . simp only[decide_eq_true_eq]at hlt
       have hk:t.toNat<2^m':=by omega
       obtain⟨hb4,x4,hx4,hs4,hn4⟩:=h9.get h0 (by omega)
       obtain⟨hb5,x5,hx5,hs5,hn5⟩:=(hq.le (View.le_trans le5 l6)).get h0 (by omega)
       have sE:=W08 m' (a02 zs 0) (a02 ws 0) S T (by simp[m03]; omega) (by simp[m03]; omega) (bz 0 (by omega)) bw t.toNat hk
       have sO:=W08 m' (a02 zs 1) (a02 ws 0) S T (by simp[m03]; omega) (by simp[m03]; omega) (bz 1 (by omega)) bw t.toNat hk
       have sW:=hT t.toNat (by omega)
       have hm2:S+T+2<=2^m'*(S+T+2):=Nat.le_mul_of_pos_left _ (Nat.pow_pos (by omega))
       have sU:=j03 (nth (n02 m' (a02 zs 1) (a02 ws 0)) t.toNat) (nth ws t.toNat)
       refine⟨hb4,x4,hx4,hs4,hb5,x5,hx5,hs5,(e03 hn4 hn5 (by omega) (by omega)).mono λv V7 l7 ⟨r6,hv,hr6⟩=>⟨r6,hv,?_⟩⟩
       obtain⟨hb6,x6,hx6,hs6,hn6⟩:=(h8.le l7).get h0 (by omega)
       refine⟨hb6,x6,hx6,hs6,hb6,x6,hx6,hs6,(Z05 hn6 hr6 (by omega) (by omega)).mono λv V8 l8' ⟨r7,hv,hr7⟩=>⟨r7,hv,?_⟩⟩
       refine(c07 (hn6.le l8') (hr6.le l8') (by omega) (by omega)).mono λv V9 l9' ⟨r8,hv,hr8⟩=>⟨r8,hv,⟨h0,?_⟩,?_,?_⟩
       . omega
       . exact S01.room hin (by rw[lo]; omega)
       have ek:i64.wrap (t+((2^m':Nat):Int))=t+((2^m':Nat):Int):=i64w (by omega) (by omega)
       have ek2:Int.toNat (t+((2^m':Nat):Int))=t.toNat+2^m':=by omega
       have et:i64.wrap (t+1)=t+1:=i64w (by omega) (by omega)
       have et2:(t+1).toNat=t.toNat+1:=by omega
       rw[ek,ek2]
       have in9:=hin.le (View.le_trans l7 (View.le_trans l8' l9'))
       have s1:=in9.set (i:=t.toNat) (by rw[lo]; omega) (hr7.le l9')
       have s2:=s1.set (i:=t.toNat+2^m') (by rw[List.length_set,lo]; omega) hr8
       refine⟨⟨by omega,by omega⟩,?_,⟨m',_,_,rfl,rfl,rfl,h8.le (View.le_trans l7 (View.le_trans l8' l9')),h9.le (View.le_trans l7 (View.le_trans l8' l9')),by rw[et]; omega,by rw[et]; omega,?_⟩,by simp only[et,et2]; omega⟩
       . exact S01.room s1 (by rw[List.length_set,lo]; omega)
       . simp only[et,et2]
         rw[<-S0p hk]
         exact s2
     . simp only[decide_eq_false_iff_not]at hge
       have e:t.toNat=2^m':=by omega
       rw[e]at hin
       have e2:n0c (2^m') (2^m') (λi=>nth (n02 m' (a02 zs 0) (a02 ws 0)) i+nth (n02 m' (a02 zs 1) (a02 ws 0)) i*nth ws i)
        (λi=>nth (n02 m' (a02 zs 0) (a02 ws 0)) i-nth (n02 m' (a02 zs 1) (a02 ws 0)) i*nth ws i)=n02 (m'+1) zs ws:=by
        have h2:=t0h (n02 (m'+1) zs ws)
        rw[N02]at h2
        rw[<-h2]
        unfold n0c
        rw[<-hp2]
        apply List.map_congr_left
        intro i hi
        have hi:i<2^(m'+1):=by simpa using hi
        rw[n02,d0c hi]
        split
        . rfl
        . rw[if_pos (by omega)]
       rw[e2]at hin
       refine⟨⟨by omega,?_⟩,by omega,by simp,by simp,hin⟩
       intro eo
       subst eo
       have:=S01.length hin
       rw[N02]at this
       simp at this; omega
end Go.Proofs.YtblaagclfalaaaaGreat
namespace Go.Proofs.YtblaagclfalaaaaGreat
open Go Go.Vc Go.Proofs Go.ChangeShapes Go.RowKit
structure e0v (P:Program) (t:TypeId):Prop where
 fields:∃f0 f1 f2:Field,P.underlying t=some (.struct #[f0,f1,f2])/\(f0.offset=0/\f1.offset=1/\f2.offset=2) /\
  (P.underlying f0.type=some (.int .i64)/\P.underlying f1.type=some (.int .i64)/\P.underlying f2.type=some (.int .i64))/\(P.cellsOf f0.type=1/\P.cellsOf f1.type=1/\P.cellsOf f2.type=1)
 cells:P.cellsOf t=3
section
variable {H:Type} {enc:TypeId×Value->H} {P:Program} {w:World} {base:Nat} {spare:Nat->Bool} {held:Bool}
theorem E0t{t:TypeId}{fuel:Nat}{cs:List Value}{x:DataW H×List MemPlace}(ht:e0v P t)(h:DataW.trod enc P w base spare held fuel t cs=some x):∃r:RatV,ratI r/\cs=r.val.cells.toList:=by
 obtain⟨f0,f1,f2,hR,⟨o0,o1,o2⟩,⟨i0,i1,i2⟩,c0,c1,c2⟩:=ht.fields
 obtain⟨xs,n,_,_,hl,hxs,hf⟩:=DataW.trod_struct hR h
 rw[ht.cells]at hl
 match cs,hl with
 | [a,b,c],_ =>
   have g0:=hf 0 f0 rfl
   have g1:=hf 1 f1 rfl
   have g2:=hf 2 f2 rfl
   rw[o0,c0]at g0
   rw[o1,c1]at g1
   rw[o2,c2]at g2
   have hs:xs.length=3:=hxs
   match xs,hs with
   | [y0, y1, y2], _ =>
     obtain⟨n0,e0,_,w0⟩:=DataW.trod_int i0 g0
     obtain⟨n1,e1,_,w1⟩:=DataW.trod_int i1 g1
     obtain⟨n2,e2,_,w2⟩:=DataW.trod_int i2 g2
     simp at e0 e1 e2
     subst e0; subst e1; subst e2
     exact⟨⟨n0,n1,n2⟩,⟨bounds_i64 w0,bounds_i64 w1,bounds_i64 w2⟩,rfl⟩
end
theorem a00.fits{P:Program}{f:FuncId}{args:Array Value}{r:Value}{V:View}(h:a00 P f args V λv _=>v=r){w:World}(hw:V.In w) :
 Calls P f args w λe w'=>e = .returned r/\Below w.heap.size w w' :=
 (h w hw).mono λ_ _ ⟨_,_,he,_,_,_,hb,hr⟩=>⟨by rw[he,hr],hb⟩
theorem W0e{H:Type}{enc:TypeId×Value->H}{P:Program}(hl:laidOutB P=true){W W':World}(hb:Below W.heap.size W W') :
 ∀ {ts:List TypeId} {vs:List Value} {ds:List (DataW H)} {ps:List MemPlace},(∀t∈ts,P.readableRec t=true/\t<P.types.size)->(∀p∈ps,p.block<W.heap.size) ->
 DataW.TrodAll enc P W 0 (λ_=>true) true ts vs ds ps->DataW.TrodAll enc P W' 0 (λb=>decide (b<W.heap.size)) true ts vs ds ps
 | [],[],[],_,_,_,h=>h
 | t::ts,v::vs,d::ds,ps,ht,hlt,⟨p,q,h1,h2,e⟩=>by
   subst e
   exact⟨p,q,Below.trod hl (ht t (by simp)).1 (ht t (by simp)).2 h1 hb (λx hx=>hlt x (by simp[hx])),
    W0e hl hb (λt' ht'=>ht t' (by simp[ht'])) (λx hx=>hlt x (by simp[hx])) h2,rfl⟩
 | [],[],_::_,_,_,_,h=>h.elim
 | [],_::_,_,_,_,_,h=>h.elim
 | _::_,[],_,_,_,_,h=>h.elim
 | _::_,_::_,[],_,_,_,h=>h.elim
theorem O0l{H:Type}{enc:TypeId×Value->H}{P:Program}{f:Func}{s:ChangeSpec}{apart fresh handsOn:Bool}{W W':World}{args:Array Value}{v:Value}{ds:List (DataW H)}{before:List MemPlace}
 (hl:laidOutB P=true) (ht:∀t∈f.params.toList,P.readableRec t=true/\t<P.types.size)
 (hW:DataW.Whole enc P f.params.toList s.vars apart W args.toList ds [] before) (hA:DataW.TrodAll enc P W 0 (λ_=>true) true f.params.toList args.toList ds before)
 (hres:∀(b:Nat) (sp:Nat->Bool) (hd:Bool),DataW.TrodAll enc P W' b sp hd f.resultTypes.toList (v.resultList f.resultTypes.size) (s.fn H (ds++[])).results [])
 (hargs:(s.fn H (ds++[])).args=ds) (hvars:∀sp:Nat->Bool,DataW.TrodVars enc P W' sp s.vars (s.fn H (ds++[])).vars []) (hb:Below W.heap.size W W'):s.post enc P f apart fresh handsOn false W args v W':=by
 refine⟨ds,[],before,[],before,[],hW,hres _ _ _,?_,hvars _,World.keptBut_mono (λp hp=>⟨hp,.inr (.inl hp)⟩) (hb.frame (·∈before)),λh=>Bool.noConfusion h⟩
 rw[hargs]
 exact W0e hl hb ht (λp hp=>hW.lt p hp) hA
def i08(w:World):View:=λb=>match w.heap[b]? with|some (.cells cs _ _)=>some cs|_=>none
theorem P0l(w:World):(i08 w).In w:=by
 intro i cs hi
 unfold i08 at hi
 split at hi
 . rename_i cs' T fr hw
   simp at hi; subst hi
   exact⟨T,fr,hw⟩
 . simp at hi
theorem m0i{w:World}{p:Addr}{v:Value}(h:w.cell? p=some v):(i08 w).load (some p)=some v:=by
 unfold World.cell? at h
 unfold View.load i08
 split at h
 . rename_i c T fr hw
   simp only[hw]
   split at h
   . simp at h
   . rename_i hs
     simp only[hs]
     simpa using h
 . simp at h
section
variable {H:Type} {enc:TypeId×Value->H} {P:Program} {w:World} {base:Nat} {spare:Nat->Bool} {held:Bool}
theorem a0s{α:Type}{sz:Nat}{t e:TypeId}(ht:P.underlying t=some (.slice e))(hc:P.cellsOf e=sz)(ok:α->Prop)(E:View->List Value->α->Prop)
 (he:∀ {fuel:Nat} {cs:List Value} {x:DataW H×List MemPlace},DataW.trod enc P w base spare held fuel e cs=some x->∃z,ok z/\E (i08 w) cs z)
 {fuel:Nat} {cs:List Value} {x:DataW H×List MemPlace} (h:DataW.trod enc P w base spare held fuel t cs=some x) :
 ∃(s:Sl) (zs:List α),cs=[s.v]/\y00 sz E (i08 w) s zs/\zs.length<=maxLen/\∀z∈zs,ok z:=by
 rcases Go.Deep.open_slice ht h with⟨h1,_⟩|⟨a,l0,c0,m,n,D,Pl,h1,_,hl,hm,hmm,_,hx⟩
 . subst h1
   exact⟨Sl.mk none 0 0,[],rfl,y00.nil,Nat.zero_le _,by intro r hr; simp at hr⟩
 . subst h1
   have hlm:l0<=m:=by rw[hmm]; split<;>omega
   have key:∀k,k<=l0->∃(rs:List α) (o:List Value),rs.length=k/\(∀r∈rs,ok r)/\S01 sz E (i08 w) o rs/\(i08 w).has (some a) o:=by
    intro k
    induction k with
    | zero=>intro _; exact⟨[],[],rfl,by intro r hr; simp at hr,rfl,by intro j v hj; simp at hj⟩
    | succ k ih =>
      intro hk
      obtain⟨rs,o,hrl,hri,hcs,ho⟩:=ih (by omega)
      obtain⟨cs',g1,g2⟩:=hx k (by omega)
      obtain⟨r,hr,er⟩:=he g2
      rw[hc]at g1
      obtain⟨_,hcl,hcell⟩:=World.cells?_some g1
      have hol:=hcs.length
      refine⟨rs++[r],o++cs',by simp[hrl],?_,hcs.append (S01.one hcl er),?_⟩
      . intro x hx
        rcases List.mem_append.1 hx with h|h
        . exact hri x h
        . simp at h; subst h; exact hr
      . intro j v hj
        by_cases hjo:j<o.length
        . rw[List.getElem?_append_left hjo]at hj
          exact ho j v hj
        . rw[List.getElem?_append_right (by omega)]at hj
          have hj3:j-o.length<sz:=by
           rcases Nat.lt_or_ge (j-o.length) cs'.length with h|h
           . omega
           . rw[List.getElem?_eq_none h]at hj; simp at hj
          have hcj:=hcell (j-o.length) hj3
          rw[hj,N0e]at hcj
          have e:k*sz+(j-o.length)=j:=by rw[hol,hrl]; rw[hol,hrl]at hjo; omega
          rw[e]at hcj
          exact m0i hcj
   obtain⟨rs,o,hrl,hri,hcs,ho⟩:=key l0 (Nat.le_refl _)
   exact⟨Sl.mk (some a) l0 c0,rs,rfl,⟨hrl.symm,hl,λ_=>rfl,o,ho,hcs⟩,by omega,hri⟩
theorem Q0l{v x:Value}(h:v.cells.toList=[x])(hv:∃a l c,v = .slice a l c):v=x:=by
 obtain⟨a,l,c,rfl⟩:=hv
 simpa [Value.cells]using h
theorem e0q{t e:TypeId}{v:Value}{d:DataW H}{ps:List MemPlace}(ht:P.underlying t=some (.slice e))(he:e0v P e)(hv:∃a l c,v = .slice a l c)(h:DataW.Trod enc P w base spare held t v d ps) :
 ∃(s:Sl) (rs:List RatV),v=s.v/\m0g (i08 w) s rs/\rs.length<=maxLen/\∀r∈rs,ratI r:=by
 obtain⟨fuel,h⟩:=h
 obtain⟨s,zs,e1,h1,h2,h3⟩:=a0s ht he.cells ratI ratC (λg=>E0t he g) h
 exact⟨s,zs,Q0l e1 hv,h1,h2,h3⟩
end
end Go.Proofs.YtblaagclfalaaaaGreat
namespace Go.Proofs.YtblaagclfalaaaaGreat
open Go Go.Vc Go.Proofs
theorem f0q{V:View}{b:Nat}(hb:V b=some #[.int .u32 1]):s02 V ⟨some ⟨b,0,none⟩,1,1⟩ 1:=by
 have:dig 1=[1]:=by rw[k07 (by omega)]; simp[W05]
 unfold s02; rw[this]
 exact U03.of_block (by rw[hb]; rfl) rfl (Nat.le_refl _) (by intro d hd; simp at hd; omega)
theorem m0w:wn 1<=2^43:=wn64 (by omega)
theorem t0u{z:Cq}:z.A=0↔z.re=0:=by
 have h:=z.canon.rep
 have hD:=D05 h.pos
 rw[h.re]
 constructor
 . intro e; rw[e]; simp[Rat.div_def]
 . intro e
   have:(z.A:Rat)=0:=by
    have:(z.A:Rat)=(z.A:Rat) / (z.D:Rat)*(z.D:Rat):=by rw[Rat.div_mul_cancel hD]
    rw[this,e]; simp
   exact_mod_cast this
theorem B_zero{z:Cq}:z.B=0↔z.im=0:=by
 have h:=z.canon.rep
 have hD:=D05 h.pos
 rw[h.im]
 constructor
 . intro e; rw[e]; simp[Rat.div_def]
 . intro e
   have:(z.B:Rat)=0:=by
    have:(z.B:Rat)=(z.B:Rat) / (z.D:Rat)*(z.D:Rat):=by rw[Rat.div_mul_cancel hD]
    rw[this,e]; simp
   exact_mod_cast this
theorem y07{V:View}{x:NumV}{z:Cq}(h:l01 V x z)(hz:z.sz<=2^40):a00 Tryz.prog d0h #[x.val] V λv _=>v = .bool (decide (z≠Cq.zero)):=by
 have zA:=Cq.wA hz; have zB:=Cq.wB hz
 refine s0l x V _ ?_
 have a1:=h.re.2.len; have a2:=h.im.2.len
 have b1:=h.re.2.len_zero; have b2:=h.im.2.len_zero
 have c1:x.re.mag.len<=2^50:=by
  have:x.re.mag.len=wn z.A.natAbs:=by rw[wn]; exact a1.symm▸rfl
  omega
 have c2:x.im.mag.len<=2^50:=by
  have:x.im.mag.len=wn z.B.natAbs:=by rw[wn]; exact a2.symm▸rfl
  omega
 rw[i64w (by omega) (by omega)]
 have d1:x.re.mag.len=0↔z.re=0:=by rw[b1,<-t0u]; omega
 have d2:x.im.mag.len=0↔z.im=0:=by rw[b2,<-B_zero]; omega
 have e:(z≠Cq.zero)↔((x.re.mag.len:Int)+(x.im.mag.len:Int)>0):=by
  constructor
  . intro hne
    rcases Nat.eq_zero_or_pos x.re.mag.len with p|p
    . rcases Nat.eq_zero_or_pos x.im.mag.len with q|q
      . exact absurd (Cq.ext' (d1.1 p) (d2.1 q)) hne
      . omega
    . omega
  . rintro hp rfl
    have p:=d1.2 rfl; have q:=d2.2 rfl
    omega
 simp only[e]
theorem Rep.div{z w:Cq}{A B a b:Int}{D d n:Nat}(hw:Rep w A B D)(ht:Rep (z*⟨(A:Rat),-(B:Rat)⟩) a b d)(hn:(n:Int)=A*A+B*B)(h0:n≠0):Rep (z.div w) (a*D) (b*D) (d*n):=by
 have hD:=D05 hw.pos
 have hd:=D05 ht.pos
 have hn0:=D05 h0
 have hN:(n:Rat)=(A:Rat)*A+B*B:=by exact_mod_cast hn
 have t1:=ht.re; have t2:=ht.im
 rw[g02]at t1; rw[i02]at t2
 dsimp only at t1 t2
 refine⟨Nat.mul_ne_zero ht.pos h0,?_,?_⟩
 . show(z.re*w.re+z.im*w.im) / (w.re*w.re+w.im*w.im)=_
   rw[hw.re,hw.im,Rat.intCast_mul,Rat.natCast_mul,Rat.intCast_natCast]
   have e1:z.re*((A:Rat) / (D:Rat))+z.im*((B:Rat) / (D:Rat))=(a:Rat) / (d:Rat) / (D:Rat):=by rw[<-t1]; grind
   have e2:(A:Rat) / (D:Rat)*((A:Rat) / (D:Rat))+(B:Rat) / (D:Rat)*((B:Rat) / (D:Rat))=(n:Rat) / ((D:Rat)*(D:Rat)):=by rw[hN]; grind
   rw[e1,e2]; grind
 . show(z.im*w.re-z.re*w.im) / (w.re*w.re+w.im*w.im)=_
   rw[hw.re,hw.im,Rat.intCast_mul,Rat.natCast_mul,Rat.intCast_natCast]
   have e1:z.im*((A:Rat) / (D:Rat))-z.re*((B:Rat) / (D:Rat))=(b:Rat) / (d:Rat) / (D:Rat):=by rw[<-t2]; grind
   have e2:(A:Rat) / (D:Rat)*((A:Rat) / (D:Rat))+(B:Rat) / (D:Rat)*((B:Rat) / (D:Rat))=(n:Rat) / ((D:Rat)*(D:Rat)):=by rw[hN]; grind
   rw[e1,e2]; grind
theorem Q0f(A B:Int):Rep ⟨(A:Rat),-(B:Rat)⟩ A (-B) 1:=by
 refine⟨by omega,?_,?_⟩
 . rw[Rat.div_def]; simp; grind
 . rw[Rat.div_def]; simp; grind
theorem c0d{V:View}{x y:NumV}{z w:Cq}(hx:l01 V x z)(hy:l01 V y w)(hz:z.sz<=2^36)(hw:w.sz<=2^36) :
 a00 Tryz.prog e0l #[x.val,y.val] V λv V'=>∃(r:NumV) (e:Int),v = .tuple #[r.val,.int .i64 e]/\(w=Cq.zero->e=3/\l01 V' r Cq.zero)/\(w≠Cq.zero->e=0/\l01 V' r (z.div w)):=by
 have hw40:w.sz<=2^40:=by omega
 have wA:=Cq.wA hw40; have wB:=Cq.wB hw40; have wD:=Cq.wD hw40
 have sA:=w.szA; have sB:=w.szB; have sD:=w.szD
 refine M0p x y V _ ((y07 hy hw40).mono λv V1 l1 hv=>⟨_,hv,λhc => ?_,λhc => ?_⟩)
 . have hc:w=Cq.zero:=by simpa using hc
   exact⟨_,_,rfl,λ_=>⟨rfl,l01.zero V1⟩,λh=>absurd hc h⟩
 have hc:w≠Cq.zero:=by simpa using hc
 replace hx:=hx.le l1; replace hy:=hy.le l1
 have m1:=H06 wA wA; have m2:=H06 wB wB
 refine(c04 hy.re hy.re (by omega) (by omega)).mono λv V2 l2 ⟨r2,hv,h2⟩=>⟨r2,hv,?_⟩
 replace hx:=hx.le l2; replace hy:=hy.le l2
 refine(c04 hy.im hy.im (by omega) (by omega)).mono λv V3 l3 ⟨r3,hv,h3⟩=>⟨r3,hv,?_⟩
 replace hx:=hx.le l3; replace hy:=hy.le l3; replace h2:=h2.le l3
 refine(w05 h2 h3 (by omega) (by omega)).mono λv V4 l4 ⟨r4,hv,h4⟩=>⟨r4,hv,?_⟩
 replace hx:=hx.le l4; replace hy:=hy.le l4
 refine(b04 hy.im).mono λv V5 l5 ⟨r5,hv,h5⟩=>⟨r5,hv,λb1 V6 l6 _ hb1 => ?_⟩
 replace hx:=hx.le (View.le_trans l5 l6); replace hy:=hy.le (View.le_trans l5 l6); replace h4:=h4.le (View.le_trans l5 l6); replace h5:=h5.le l6
 refine(X05 hy.re h5 (f0q hb1) (Q0f w.A w.B) (by omega) (by rw[Int.natAbs_neg]; omega) m0w).mono λv V7 l7 ⟨r6,hv,h6⟩=>⟨r6,hv,?_⟩
 replace hx:=hx.le l7; replace hy:=hy.le l7; replace h4:=h4.le l7
 have cs:(⟨(w.A:Rat),-(w.B:Rat)⟩:Cq).sz<=2^36+1:=(Q0f w.A w.B).sz (by omega) (by rw[Int.natAbs_neg]; omega) (by rw[u0r]; omega)
 refine(e03 hx h6 (by omega) (by omega)).mono λv V8 l8 ⟨r7,hv,h7⟩=>⟨r7,hv,?_⟩
 replace hy:=hy.le l8; replace h4:=h4.le l8
 have ts:=j03 z ⟨(w.A:Rat),-(w.B:Rat)⟩
 have ts40:(z*⟨(w.A:Rat),-(w.B:Rat)⟩).sz<=2^40:=by omega
 have tA:=Cq.wA ts40; have tB:=Cq.wB ts40; have tD:=Cq.wD ts40
 refine(H02 hy).mono λv V9 l9 ⟨r8,hv,h8⟩=>⟨r8,hv,?_⟩
 replace hy:=hy.le l9; replace h4:=h4.le l9; replace h7:=h7.le l9
 refine(G02 h7.re h8 (by omega) (by omega)).mono λv V10 l10 ⟨r9,hv,h9⟩=>⟨r9,hv,?_⟩
 replace hy:=hy.le l10; replace h4:=h4.le l10; replace h7:=h7.le l10
 refine(H02 hy).mono λv V11 l11 ⟨r10,hv,h10⟩=>⟨r10,hv,?_⟩
 replace h4:=h4.le l11; replace h7:=h7.le l11; replace h9:=h9.le l11
 refine(G02 h7.im h10 (by omega) (by omega)).mono λv V12 l12 ⟨r11,hv,h11⟩=>⟨r11,hv,?_⟩
 replace h4:=h4.le l12; replace h7:=h7.le l12; replace h9:=h9.le l12
 refine(H02 h7).mono λv V13 l13 ⟨r12,hv,h12⟩=>⟨r12,hv,?_⟩
 replace h4:=h4.le l13; replace h9:=h9.le l13; replace h11:=h11.le l13
 have n1:=H0f m1 m2
 refine(I07 h12 h4.2 (by omega) (by omega)).mono λv V14 l14 ⟨r13,hv,h13⟩=>⟨r13,hv,?_⟩
 replace h9:=h9.le l14; replace h11:=h11.le l14
 have p1:=O0c (z*⟨(w.A:Rat),-(w.B:Rat)⟩).D (w.A*w.A+w.B*w.B).natAbs
 have q1:=H06 tA (b:=(w.D:Int)) (by rw[Int.natAbs_natCast]; exact wD)
 have q2:=H06 tB (b:=(w.D:Int)) (by rw[Int.natAbs_natCast]; exact wD)
 have hsq:(0:Int)<=w.A*w.A+w.B*w.B:=Int.add_nonneg (by rw[<-Int.natAbs_mul_self]; exact Int.natCast_nonneg _) (by rw[<-Int.natAbs_mul_self]; exact Int.natCast_nonneg _)
 refine(X05 h9 h11 h13 (Rep.div w.canon.rep (z*⟨(w.A:Rat),-(w.B:Rat)⟩).canon.rep (Int.natAbs_of_nonneg hsq) ?_) (by omega) (by omega) (by omega)).mono λv V15 _ ⟨r,hv,hr⟩=>⟨r,hv,r,_,rfl,λh=>absurd h hc,λ_=>⟨rfl,hr⟩⟩
 intro h0
 have e0:w.A*w.A+w.B*w.B=0:=Int.natAbs_eq_zero.1 h0
 have a0:w.A=0:=by
  by_cases h:w.A=0
  . exact h
  . have:0<w.A*w.A:=by
      have:0<w.A.natAbs*w.A.natAbs:=Nat.mul_pos (by omega) (by omega)
      rw[<-Int.natAbs_mul_self]; exact_mod_cast this
    have:(0:Int)<=w.B*w.B:=by rw[<-Int.natAbs_mul_self]; exact Int.natCast_nonneg _
    omega
 have b0:w.B=0:=by
  rw[a0]at e0
  have:w.B*w.B=0:=by omega
  rcases Int.mul_eq_zero.1 this with h|h<;>exact h
 exact hc (Cq.ext' (t0u.1 a0) (B_zero.1 b0))
theorem n0o{z w:Cq}{S:Nat}(hz:z.sz<=S)(hw:w.sz<=S):(z.div w).sz<=4*S+8:=by
 have sA:=w.szA; have sB:=w.szB; have sD:=w.szD
 have cs:(⟨(w.A:Rat),-(w.B:Rat)⟩:Cq).sz<=S+1:=(Q0f w.A w.B).sz (by omega) (by rw[Int.natAbs_neg]; omega) (by rw[u0r]; omega)
 have ts:=j03 z ⟨(w.A:Rat),-(w.B:Rat)⟩
 have tA:=(z*⟨(w.A:Rat),-(w.B:Rat)⟩:Cq).szA; have tB:=(z*⟨(w.A:Rat),-(w.B:Rat)⟩:Cq).szB; have tD:=(z*⟨(w.A:Rat),-(w.B:Rat)⟩:Cq).szD
 have hsq:(0:Int)<=w.A*w.A+w.B*w.B:=Int.add_nonneg (by rw[<-Int.natAbs_mul_self]; exact Int.natCast_nonneg _) (by rw[<-Int.natAbs_mul_self]; exact Int.natCast_nonneg _)
 by_cases h0:(w.A*w.A+w.B*w.B).natAbs=0
 . have:z.div w=Cq.zero:=by
     have hr:=w.canon.rep
     have e0:w.A*w.A+w.B*w.B=0:=Int.natAbs_eq_zero.1 h0
     have hn:w.norm=0:=by
      unfold Cq.norm
      rw[hr.re,hr.im]
      have:(w.A:Rat)*w.A+w.B*w.B=0:=by exact_mod_cast e0
      have hD:=D05 hr.pos
      grind
     refine Cq.ext' ?_ ?_
     . show _ / w.norm=0; rw[hn]; simp[Rat.div_def]
     . show _ / w.norm=0; rw[hn]; simp[Rat.div_def]
   rw[this]; have:=J07; omega
 . refine(Rep.div w.canon.rep (z*⟨(w.A:Rat),-(w.B:Rat)⟩).canon.rep (Int.natAbs_of_nonneg hsq) h0).sz ?_ ?_ ?_
   . have:=f08 (z*⟨(w.A:Rat),-(w.B:Rat)⟩).A (w.D:Int); rw[Int.natAbs_natCast]at this; omega
   . have:=f08 (z*⟨(w.A:Rat),-(w.B:Rat)⟩).B (w.D:Int); rw[Int.natAbs_natCast]at this; omega
   . have h1:=E0l (z*⟨(w.A:Rat),-(w.B:Rat)⟩).D (w.A*w.A+w.B*w.B).natAbs
     have h2:=D0f (a:=w.A*w.A) (b:=w.B*w.B) (k:=2*S) (Nat.le_trans (f08 _ _) (by omega)) (Nat.le_trans (f08 _ _) (by omega))
     omega
def okN(z:Cq):Prop:=z.sz<=2^36
def atN(V:View)(n:NumV)(z:Cq):Prop:=l01 V n z
theorem atN.le{V V':View}(h:V.le V'){n:NumV}{z:Cq}(k:atN V n z):atN V' n z:=l01.le h k
theorem elN{V:View}{x:List Value}{z:Cq}(h:numC V x z):∃n:NumV,x=n.val.cells.toList/\atN V n z:=h
theorem F0t{V:View}{n:NumV}{z:Cq}(h:atN V n z):numC V n.val.cells.toList z:=⟨n,rfl,h⟩
theorem lenN(n:NumV):n.val.cells.toList.length=5:=rfl
theorem oneN{V:View}{x:List Value}{z:Cq}(h:numC V x z):∀v∈x,Value.oneCell' v=true:=by
 obtain⟨n,e,_⟩:=h
 subst e
 intro v hv
 rw[s0h]at hv
 simp only[List.mem_cons,List.not_mem_nil,or_false]at hv
 rcases hv with rfl|rfl|rfl|rfl|rfl<;>rfl
theorem Q0w(V:View):numC V [Value.bool false,Value.slice none 0 0,Value.bool false,Value.slice none 0 0,Value.slice none 0 0] Cq.zero:=⟨_,rfl,l01.zero V⟩
theorem n0w{V:View}{n:NumV}{z:Cq}(h:atN V n z)(hz:okN z):a00 Tryz.prog d0h #[n.val] V λv _=>v = .bool (numO.clr z):=y07 h (by unfold okN at hz; omega)
theorem divN{V:View}{n k:NumV}{z w:Cq}(h:atN V n z)(h':atN V k w)(hz:okN z)(hw:okN w)(hc:numO.clr w=true) :
 a00 Tryz.prog e0l #[n.val,k.val] V λv V'=>∃r:NumV,v = .tuple #[r.val,.int .i64 0]/\atN V' r (numO.div z w):=by
 refine(c0d h h' hz hw).mono λv V' _ ⟨r,e,hv,_,h2⟩ => ?_
 obtain⟨g1,g2⟩:=h2 (k0k.1 hc)
 subst g1
 exact⟨r,hv,g2⟩
theorem b0s{x y u:Cq}(hx:okN x)(hy:okN y)(hu:okN u):(Cq.div x y).sz<=4*2^36+8/\(Cq.div x y*u).sz<=5*2^36+9:=by
 have h1:=n0o hx hy
 have h2:=j03 (Cq.div x y) u
 unfold okN at hu
 omega
theorem S0w{V:View}{n k:NumV}{x y u:Cq}(h:atN V n (numO.div x y))(h':atN V k u)(hx:okN x)(hy:okN y)(hu:okN u) :
 a00 Tryz.prog f0h #[n.val,k.val] V λv V'=>∃r:NumV,v=r.val/\atN V' r (numO.mul (numO.div x y) u):=by
 have hs:=b0s hx hy hu
 exact e03 (z:=Cq.div x y) (w:=u) h h' (by omega) (by unfold okN at hu; omega)
theorem T0w{V:View}{n k:NumV}{z x y u:Cq}(h:atN V n z)(h':atN V k (numO.mul (numO.div x y) u))(hz:okN z)(hx:okN x)(hy:okN y)(hu:okN u) :
 a00 Tryz.prog e0h #[n.val,k.val] V λv V'=>∃r:NumV,v=r.val/\atN V' r (numO.sub z (numO.mul (numO.div x y) u)):=by
 have hs:=b0s hx hy hu
 exact c07 (z:=z) (w:=Cq.div x y*u) h h' (by unfold okN at hz; omega) (by omega)
theorem mulN{V:View}{n k:NumV}{x y:Cq}(h:atN V n x)(h':atN V k y)(hx:okN x)(hy:okN y) :
 a00 Tryz.prog f0h #[n.val,k.val] V λv V'=>∃r:NumV,v=r.val/\atN V' r (numO.mul x y) :=
 e03 (z:=x) (w:=y) h h' (by unfold okN at hx; omega) (by unfold okN at hy; omega)
theorem subN{V:View}{n k:NumV}{x y z:Cq}(h:atN V n x)(h':atN V k (numO.mul y z))(hx:okN x)(hy:okN y)(hz:okN z) :
 a00 Tryz.prog e0h #[n.val,k.val] V λv V'=>∃r:NumV,v=r.val/\atN V' r (numO.sub x (numO.mul y z)):=by
 have:=j03 y z
 unfold okN at hx hy hz
 exact c07 (z:=x) (w:=y*z) h h' (by omega) (by omega)
theorem U0w{V:View}{o:List Value}{row:List Bool}(h:S01 1 boolC V o row):∀v∈o,Value.oneCell' v=true:=by
 induction row generalizing o with
 | nil=>rw[show o=[]from h]; simp
 | cons z zs ih =>
   obtain⟨x,o',e,hx,hp,ht⟩:=h
   subst e
   intro v hv
   rw[List.mem_append]at hv
   rcases hv with hv|hv
   . exact oneL hp v hv
   . exact ih ht v hv
theorem D0h{m V:View}{s:Sl}{row:List Bool}{o:List Value}(hC:S01 1 boolC V o row)(ho:has2 m V s.a o)(hl:s.len=row.length)(ha:s.a=none->row=[])(hb:row.length<=2^30) :
 O02 Tryz.prog O06 #[s.v] m V λv m' V'=>∃(r:Sl) (b:Nat),v=r.v/\RowR 1 boolC m' V' r b row/\(row≠[]->m b=none)/\(∀i,i≠b\/row=[]->m' i=m i):=by
 refine A09 m s V _ ⟨trivial,λh => ?_,λh b1 V1 l1 hf hb1 => ?_⟩
 . have e:=ha (by simpa using h)
   exact⟨⟨none,0,0⟩,0,rfl,⟨by rw[e]; rfl,Nat.le_refl _,λ_=>rfl,λh=>absurd e h⟩,λh=>absurd e h,λ_ _=>rfl⟩
 . have hol:=hC.length
   refine⟨[],o,⟨Nat.le_refl _,λh=>by simp at h⟩,.inl (by intro j v hj; simp at hj),by simp,A0c l1 ho,by rw[hol,hl],U0w hC,by unfold maxLen; omega,by omega,λh1 h2=>by omega,λa1 c1 m1 ha1 => ?_⟩
   have hC1:S01 1 boolC V1 o row:=hC.imp (boolC.le l1)
   obtain⟨b,hr,hb2,hm,hm2⟩:=u0j hC1 rfl hl ha1
   exact⟨_,b,rfl,hr,hb2,λi hi=>by
    rcases hi with hi|hi
    . exact hm i hi
    . rw[hm2 hi]⟩
theorem o0n{V:View}{s:Sl}{row:List Bool}(h:y00 1 boolC V s row)(hb:row.length<=2^30) :
 a00 Tryz.prog O06 #[s.v] V λv V'=>∃r:Sl,v=r.v/\y00 1 boolC V' r row:=by
 obtain⟨hl,hc,hn,o,ho,hC⟩:=h
 refine O02.known (D0h (m:=λ_=>none) hC (.inr ho) hl (λe => ?_) hb) λv m V' V2 l e ap ⟨r,b,hv,hr,_⟩=>⟨r,hv,?_⟩
 . rcases Classical.em (row=[])with g|g
   . exact g
   . have:=hn g; rw[e]at this; simp at this
 . subst e
   exact hr.known (boolC.le (H0b ap)) (λb cs g=>K07 g)
theorem I0f{V:View}{p:Sl}{rows:List (List Bool)}(h:X00 1 boolC V p rows) :
 a00 Tryz.prog U0a #[p.v] V λv V'=>∃g:s00,v = .tuple #[g.val,.int .i64 (l0i rows)]/\X00 1 boolC V' g.rows (u0h rows):=by
 have hl:p.len=rows.length:=h.len
 have bad:∀V':View,a07 rows=false->∃g:s00,Value.tuple #[(s00.mk (Sl.mk none 0 0)).val,.int .i64 4] = .tuple #[g.val,.int .i64 (l0i rows)]/\X00 1 boolC V' g.rows (u0h rows):=λV' e=>by
  refine⟨⟨⟨none,0,0⟩⟩,?_,?_⟩
  . unfold l0i; rw[e]; rfl
  . unfold u0h; rw[e]; exact y00.nil
 refine A0a p V _ (λ_ _ _=>1<=rows.length/\rows.length<=64)
  (λ_ x V'=>∃(t:Nat) (l:List Value),x.t18=t/\t<=rows.length/\C03 1 x.o4_0l x.o4_0c x.o45 l/\x.o4_0l=t/\S01 1 (λV x row=>∃s:Sl,x=[s.v]/\y00 1 boolC V s row) V' l (rows.take t)/\∀row∈rows.take t,s09 (S00 rows) row=true)
  (λ_ x _=>rows.length-x.t18.toNat) ?_
 rw[hl]
 refine⟨⟨λc=>bad V ?_,λc=>⟨λc'=>bad V ?_,λc' => ?_⟩⟩,?_⟩
 . unfold a07
   have c:=of_decide_eq_true c
   have:decide (1<=rows.length)=false:=decide_eq_false (by omega)
   rw[this]; rfl
 . unfold a07
   have c':=of_decide_eq_true c'
   have:decide (rows.length<=64)=false:=decide_eq_false (by omega)
   rw[this,Bool.false_and,Bool.and_false]
 . have c:=of_decide_eq_false c
   have c':=of_decide_eq_false c'
   omega
 rintro⟨o2⟩ V1 l1 ⟨n1,n2⟩
 refine⟨⟨0,[],rfl,by omega,C03.nil,rfl,rfl,by simp⟩,?_⟩
 rintro⟨t18,o2',k,c,o⟩ V2 l2 ⟨t,l,et,ht,hL,ek,hC,hall⟩
 dsimp only at et hL ek hC ⊢
 subst et; subst ek
 have L2:=View.le_trans l1 l2
 refine⟨λhlt => ?_,λhge => ?_⟩
 . have hk:k<rows.length:=by simp at hlt; omega
   have ek:rows[k]?=some rows[k]:=List.getElem?_eq_getElem hk
   have hmem:=List.getElem_mem hk
   obtain⟨g,s,h1,h2⟩:=(X00.le boolC.le L2 h).row (t:=(k:Int)) (by omega) (row:=rows[k]) (by rw[Int.toNat_natCast]; exact ek)
   have hs:s.len=rows[k].length:=h2.len
   rw[hl]at g
   have tk:rows.take (k+1)=rows.take k++[rows[k]]:=by rw[List.take_add_one,ek]; rfl
   generalize rows[k]=row at *
   have no:s09 (S00 rows) row=false->a07 rows=false:=λe=>by
    unfold a07
    rw[List.all_eq_false.2 ⟨row,hmem,by rw[e]; simp⟩,Bool.and_false,Bool.and_false]
   refine⟨g,s,h1,λc1=>bad V2 (no ?_),λc1=>⟨λc2=>bad V2 (no ?_),λc2 => ?_⟩⟩
   . unfold s09
     have c1:=of_decide_eq_true c1
     have:decide (1<=row.length)=false:=decide_eq_false (by omega)
     rw[this]; rfl
   . unfold s09
     have c2:=of_decide_eq_true c2
     have:decide (row.length<=64)=false:=decide_eq_false (by omega)
     rw[this,Bool.false_and,Bool.and_false]
   obtain⟨row0,e0,e1⟩:=e0c (rows:=rows) (by omega)
   obtain⟨g0,s0,h3,h4⟩:=(X00.le boolC.le L2 h).row (t:=(0:Int)) (by omega) (row:=row0) e0
   have hs0:s0.len=S00 rows:=by rw[<-e1]; exact h4.len
   rw[hl]at g0
   refine⟨g0,s0,h3,λc3=>bad V2 (no ?_),λc3 => ?_⟩
   . unfold s09
     have:decide (row.length=S00 rows)=false:=decide_eq_false (λe=>by rw[hs,hs0,e]at c3; simp at c3)
     rw[this,Bool.and_false,Bool.and_false]
   have ok:s09 (S00 rows) row=true:=by
    have c1:=of_decide_eq_false c1
    have c2:=of_decide_eq_false c2
    have c3:row.length=S00 rows:=by rw[hs,hs0]at c3; simp at c3; omega
    unfold s09
    rw[decide_eq_true (show 1<=row.length by omega),decide_eq_true (show row.length<=64 by omega),decide_eq_true c3]; rfl
   refine(o0n h2 (by have:=of_decide_eq_false c2; omega)).mono λv V3 l3 ⟨r1,hv,hr⟩=>⟨r1,hv,λb1 V4 l4 _ hb1 => ?_⟩
   have hnew:V4.has (some (Addr.mk b1 0 none)) [r1.v]:=P04 (cs:=[r1.v]) (j:=0) hb1 (λi v hv=>by rw[Nat.zero_add]; exact hv) rfl
   refine⟨l,_,hL,hnew,rfl,by intro v hv; simp at hv; subst hv; rfl,by unfold maxLen; omega,by omega,λc1 l3' hl3 => ?_⟩
   rw[i64w (by omega) (by omega)]
   have L24:=View.le_trans l3 l4
   refine⟨⟨k+1,_,by omega,by omega,hl3,rfl,?_,λrow' hr' => ?_⟩,by omega⟩
   . rw[tk]
     exact(hC.imp λ_ _ ⟨s,e,hs⟩=>⟨s,e,y00.le (boolC.le L24) L24 hs⟩).append (S01.one rfl ⟨_,rfl,y00.le (boolC.le l4) l4 hr⟩)
   . rw[tk]at hr'
     rcases List.mem_append.1 hr' with hr'|hr'
     . exact hall row' hr'
     . rw[show row'=row by simpa using hr']; exact ok
 . have e:k=rows.length:=by simp at hge; omega
   subst e
   rw[List.take_length]at hC hall
   intro b2 V5 l5 hb2
   have ok:a07 rows=true:=by
    unfold a07
    simp only[Bool.and_eq_true,decide_eq_true_eq,List.all_eq_true]
    exact⟨n1,n2,hall⟩
   refine⟨⟨⟨lstA b2 c,rows.length,c⟩⟩,by unfold l0i; rw[ok]; rfl,?_⟩
   unfold u0h; rw[if_pos ok]
   exact z06 hL hb2 (hC.imp λ_ _ ⟨s,e,hs⟩=>⟨s,e,y00.le (boolC.le l5) l5 hs⟩) rfl
theorem S0d{V:View}{g:s00}{rows:List (List Bool)}(h:X00 1 boolC V g.rows rows) :
 a00 Tryz.prog i09 #[g.val] V λv _=>v = .tuple #[.int .i64 (rows.length:Int),.int .i64 (S00 rows:Int)]:=by
 have hl:g.rows.len=rows.length:=h.len
 refine z08 g V _ ⟨λc => ?_,λc => ?_⟩
 . have e:rows=[]:=List.length_eq_zero_iff.1 (by simp at c; omega)
   subst e; rfl
 . obtain⟨row0,e0,e1⟩:=e0c (rows:=rows) (by simp at c; omega)
   obtain⟨g0,s0,h3,h4⟩:=h.row (t:=(0:Int)) (by omega) (row:=row0) e0
   refine⟨g0,s0,h3,?_⟩
   rw[h4.len,e1,hl]
theorem z0g{V:View}{s:Sl}{p:Option Addr}{k:Nat}(hp:V.load p=some (.int .i64 (k:Int))) :
 a00 Tryz.prog j06 #[s.v,.pointer p] V λv _=>v = .bool (decide (s.len≠k)):=by
 refine Z0a s p V _ ⟨_,hp,?_⟩
 congr 1
 by_cases e:s.len=k
 . subst e; simp
 . simp[e]; omega
theorem X0e{V:View}{p:Sl}{rows:List (List Cq)}(h:X00 5 numC V p rows)(hn:rows.length<=2^40)(q:Fn1){k:Nat}(hp:V.load q.p0=some (.int .i64 (k:Int))) :
 a00 Tryz.prog F06 #[p.v,q.val j06] V λv _=>∃r:Int,v = .int .i64 r/\(0<=r↔∃row,row∈rows/\row.length≠k):=by
 have hl:p.len=rows.length:=h.len
 refine s03 p q V _ (λ_ x _=>∃t:Nat,x.t8=t/\t<=rows.length/\∀row,row∈rows.take t->row.length=k) (λ_ x _=>rows.length-x.t8.toNat) ⟨⟨0,rfl,by omega,by simp⟩,?_⟩
 rintro⟨t⟩ V1 l1 ⟨t',ht,htn,hi⟩
 dsimp only at ht ⊢
 subst ht
 refine⟨λhlt => ?_,λhge => ?_⟩
 . simp only[decide_eq_true_eq]at hlt
   have hk:t'<rows.length:=by omega
   obtain⟨g1,s,g2,g3⟩:=(h.le numC.le l1).row (t:=(t':Int)) (by omega) (row:=rows[t']) (by simp)
   refine⟨g1,s,g2,(z0g (y03 l1 hp)).mono λv V2 l2 hv=>⟨_,hv,λhr=>⟨_,rfl,?_⟩,λhr => ?_⟩⟩
   . have hne:=of_decide_eq_true hr
     rw[g3.len]at hne
     exact⟨λ_=>⟨rows[t'],List.getElem_mem hk,hne⟩,λ_=>by omega⟩
   . have he:s.len=k:=by simpa using hr
     rw[g3.len]at he
     rw[i64w (by omega) (by omega)]
     refine⟨⟨t'+1,by omega,by omega,λrow hrow => ?_⟩,by omega⟩
     rw[List.take_add_one,List.getElem?_eq_getElem hk]at hrow
     simp only[Option.toList_some,List.mem_append,List.mem_singleton]at hrow
     rcases hrow with hrow|hrow
     . exact hi row hrow
     . subst hrow; exact he
 . simp only[decide_eq_false_iff_not]at hge
   have e:t'=rows.length:=by omega
   subst e
   rw[List.take_length]at hi
   exact⟨-1,rfl,λh=>absurd h (by omega),λ⟨row,h1,h2⟩=>absurd (hi row h1) h2⟩
theorem d0d{V:View}{p:Sl}{rows:List (List Cq)}(h:X00 5 numC V p rows)(hn:rows.length<=2^40)(q:Fn1){k:Nat}(hp:V.load q.p0=some (.int .i64 (k:Int))) :
 a00 Tryz.prog o06 #[p.v,q.val j06] V λv _=>v = .bool (rows.any λrow=>decide (row.length≠k)):=by
 refine f03 p q V _ ((X0e h hn q hp).mono λv V1 l1 ⟨r,hv,hr⟩=>⟨r,hv,?_⟩)
 congr 1
 rw[Bool.eq_iff_iff]
 simp only[ge_iff_le,decide_eq_true_eq,List.any_eq_true]
 exact hr
def o09(rows:List (List Cq)):Nat:=(rows.headD []).length
def E0h(rows:List (List Cq)):Bool:=rows.isEmpty||(decide (rows.length<=32)&&decide (o09 rows<=32) && !(rows.any λrow=>decide (row.length≠o09 rows)))
theorem t09{V:View}{p:Sl}{rows:List (List Cq)}(h:X00 5 numC V p rows)(hn:rows.length<=2^40) :
 a00 Tryz.prog t0c #[p.v] V λv _=>v = .tuple #[.int .i64 (o09 rows:Int),.bool (E0h rows)]:=by
 have hl:p.len=rows.length:=h.len
 refine U0b p V _ ⟨λh0 => ?_,λh0 => ?_⟩
 . have e:rows=[]:=List.length_eq_zero_iff.1 (by simp at h0; omega)
   subst e; rfl
 . have hne:0<rows.length:=by simp at h0; omega
   obtain⟨row,rest,e⟩:∃row rest,rows=row::rest:=by
    cases rows with
    | nil=>simp at hne
    | cons a l=>exact⟨a,l,rfl⟩
   obtain⟨g1,s,g2,g3⟩:=h.row (t:=(0:Int)) (by omega) (row:=row) (by subst e; rfl)
   refine⟨g1,s,g2,λb1 V1 l1 hb1 => ?_⟩
   have hld:V1.load (some (Addr.mk b1 0 none))=some (.int .i64 (s.len:Int)):=by
    have:=G07 (j:=0) hb1
    simpa [Addr.add]using this
   have hs:s.len=o09 rows:=by subst e; exact g3.len
   rw[hs]at hld
   have hE:rows.isEmpty=false:=by subst e; rfl
   refine⟨_,hld,λh1=>⟨_,hld,λh2 => ?_,λh2 => ?_⟩,λh1 => ?_⟩
   . simp only[decide_eq_true_eq]at h1 h2
     refine(d0d (h.le numC.le l1) hn ⟨some (Addr.mk b1 0 none)⟩ hld).mono λv V2 l2 hv=>⟨_,hv,?_⟩
     have e1:decide (rows.length<=32)=true:=by simp; omega
     have e2:decide (o09 rows<=32)=true:=by simp; omega
     simp only[E0h,hE,e1,e2,Bool.false_or,Bool.true_and]
   . simp only[decide_eq_false_iff_not]at h2
     have e2:decide (o09 rows<=32)=false:=by simp; omega
     simp only[E0h,hE,e2,Bool.false_or,Bool.and_false,Bool.false_and]
   . simp only[decide_eq_false_iff_not]at h1
     have e1:decide (rows.length<=32)=false:=by simp; omega
     simp only[E0h,hE,e1,Bool.false_or,Bool.false_and]
theorem e0d{V:View}{p:Sl}{rows:List (List Cq)}(h:X00 5 numC V p rows)(hn:rows.length<=2^40) :
 a00 Tryz.prog Y07 #[p.v] V λv _=>v = .bool (E0h rows&&decide (o09 rows=rows.length)):=by
 have hl:p.len=rows.length:=h.len
 refine u0b p V _ ((t09 h hn).mono λv V1 l1 hv=>⟨_,_,hv,λh1 => ?_,λh1 => ?_⟩)
 . rw[h1,Bool.true_and,hl]
   congr 1
   by_cases e:o09 rows=rows.length
   . simp[e]
   . simp[e]; omega
 . rw[h1,Bool.false_and]
theorem W0w{V:View}{o:List Value}{row:List Cq}(h:S01 5 numC V o row):∀v∈o,Value.oneCell' v=true:=by
 induction row generalizing o with
 | nil=>rw[show o=[]from h]; simp
 | cons z zs ih =>
   obtain⟨x,o',e,hx,hp,ht⟩:=h
   subst e
   intro v hv
   rw[List.mem_append]at hv
   rcases hv with hv|hv
   . exact oneN hp v hv
   . exact ih ht v hv
theorem j08{m V:View}{s:Sl}{row:List Cq}{o:List Value}(hC:S01 5 numC V o row)(ho:has2 m V s.a o)(hl:s.len=row.length)(ha:s.a=none->row=[])(hb:row.length<=2^30) :
 O02 Tryz.prog H05 #[s.v] m V λv m' V'=>∃(r:Sl) (b:Nat),v=r.v/\RowR 5 numC m' V' r b row/\(row≠[]->m b=none)/\(∀i,i≠b\/row=[]->m' i=m i):=by
 refine N07 m s V _ ⟨trivial,λh => ?_,λh b1 V1 l1 hf hb1 => ?_⟩
 . have e:=ha (by simpa using h)
   exact⟨⟨none,0,0⟩,0,rfl,⟨by rw[e]; rfl,Nat.le_refl _,λ_=>rfl,λh=>absurd e h⟩,λh=>absurd e h,λ_ _=>rfl⟩
 . have hol:=hC.length
   refine⟨[],o,⟨Nat.le_refl _,λh=>by simp at h⟩,.inl (by intro j v hj; simp at hj),by simp,A0c l1 ho,by rw[hol,hl],W0w hC,by unfold maxLen; omega,by omega,λh1 h2=>by omega,λa1 c1 m1 ha1 => ?_⟩
   have hC1:S01 5 numC V1 o row:=hC.imp (numC.le l1)
   obtain⟨b,hr,hb2,hm,hm2⟩:=u0j hC1 rfl hl ha1
   exact⟨_,b,rfl,hr,hb2,λi hi=>by
    rcases hi with hi|hi
    . exact hm i hi
    . rw[hm2 hi]⟩
def u09(A:Nat->Nat->Cq)(w:Nat)(C:Nat->Nat->Cq):Nat->Nat->Cq:=λi k=>if k<w then A i k else C (k-w) i
theorem j0e{V:View}{p q:Sl}{n w u:Nat}{A C:Nat->Nat->Cq}(h:X00 5 numC V p (matL n w A))(hq:X00 5 numC V q (matL u n C))(hn:n<=2^20)(hw:w<=2^20)(hu:u<=2^20) :
 O02 Tryz.prog G0c #[p.v,q.v] (λ_=>none:View) V λv m' V'=>∃r:Sl,v=r.v/\MatR 5 numC m' V' r n (w+u) (u09 A w C):=by
 have hl:p.len=n:=by have:=h.len; rw[w00]at this; exact this
 have hql:q.len=u:=by have:=hq.len; rw[w00]at this; exact this
 refine w0c (λ_=>none) p q V _ (λ_ x V'=>∃t:Nat,x.t15=t/\t<=n/\x.o12.length=n/\E03 5 numC x.o0 V' x.o12 t (λi=>rowL (w+u) (u09 A w C i))) (λ_ x _=>n-x.t15.toNat)
  (λc x V'=>∃t k:Nat,c.t15=t/\t<n/\x.t27=k/\k<=u/\x.o12.length=n/\E03 5 numC x.o0 V' x.o12 (t+1) (λi=>if i=t then rowL (w+k) (u09 A w C i)else rowL (w+u) (u09 A w C i))) (λ_ x _=>u-x.t27.toNat) ?_
 rw[hl]
 refine⟨⟨by omega,by omega,by omega,by omega⟩,⟨0,rfl,by omega,by simp,E0n _ _ _ _⟩,?_⟩
 rintro⟨t15,o0,o12⟩ V1 l1 ⟨t,ht,htn,hlen,hR⟩
 dsimp only at ht hlen hR ⊢
 subst ht
 refine⟨λhlt => ?_,λhge => ?_⟩
 . simp only[decide_eq_true_eq]at hlt
   have hk:t<n:=by omega
   obtain⟨g1,s,g2,g3⟩:=(h.le numC.le l1).row (t:=(t:Int)) (by omega) (row:=rowL w (A t)) (by rw[Int.toNat_natCast]; exact Q04 hk A)
   rw[hl]at g1
   obtain⟨o,ho,hC⟩:=g3.cells
   refine⟨g1,s,.inr g2,?_⟩
   refine(j08 hC (.inr ho) g3.len (λe => ?_) (by rw[k00]; omega)).mono λv m1 V2 l2 _ ⟨r,b,hv,hr,hb,hm⟩=>⟨r,hv,⟨by omega,by omega⟩,by rw[hlen,Int.toNat_natCast]; omega,?_,?_⟩
   . by_cases e2:rowL w (A t)=[]
     . exact e2
     . have:=g3.some e2; rw[e]at this; simp at this
   . refine⟨t,0,rfl,hk,rfl,by omega,by simp[hlen],?_⟩
     have:=(hR.le numC.le l2).push (by omega) hr hb hm
     have e1:(0+Int.toNat (t:Int)*1)=t:=by omega
     rw[e1]
     refine this.congr λi hi => ?_
     by_cases e:i=t
     . subst e
       simp only[if_true,Nat.add_zero]
       exact x03 λk hk=>by simp[u09,hk]
     . simp[e]
   . rintro⟨t27,o0',o12'⟩ V3 l3 ⟨t',k,ht',htn',hk27,hku,hlen',hR'⟩
     dsimp only at ht' hk27 hlen' hR' ⊢
     have:t'=t:=by omega
     subst this
     subst hk27
     rw[hql]
     refine⟨λhlt2 => ?_,λhge2 => ?_⟩
     . simp only[decide_eq_true_eq]at hlt2
       have hku2:k<u:=by omega
       have lq:=View.le_trans l1 (View.le_trans l2 l3)
       obtain⟨q1,s2,q2,q3⟩:=(hq.le numC.le lq).row (t:=(k:Int)) (by omega) (row:=rowL n (C k)) (by rw[Int.toNat_natCast]; exact Q04 hku2 C)
       rw[hql]at q1
       obtain⟨s3,e3,r1,r2,r3,⟨o3,r4,r5,r6⟩,r7⟩:=hR'.row (i:=t') (by omega)
       obtain⟨c1,x,hx,hxl,hh,hs⟩:=y00.get q3 (t:=(t':Int)) (by omega) (z:=C k t') (by rw[Int.toNat_natCast]; exact n03 hk _)
       obtain⟨y,ey,hy⟩:=elN hx
       subst ey
       simp only[if_true]at r1 r6
       rw[k00]at r1
       refine⟨q1,s2,.inr q2,⟨by omega,by omega⟩,s3,by rw[Int.toNat_natCast,Nat.mul_one,Nat.zero_add]; exact e3,c1,y,.inr hh,hs,λb1 V4 l4 hf4 hb4 => ?_⟩
       have hnew:V4.has (some (Addr.mk b1 0 none)) y.val.cells.toList:=by
        refine P04 (cs:=y.val.cells.toList) (j:=0) hb4 (λi v hv=>by rw[Nat.zero_add]; exact hv) rfl
       refine⟨o3,_,⟨r2,r3⟩,A0c l4 r4,r5,.inr hnew,by rw[hxl],oneN (numC.le l4 _ _ hx),by unfold maxLen; omega,by omega,λ_ h2=>r7 1 (by omega) h2,λa1 c1 m2 ha=>⟨⟨by omega,by omega⟩,by rw[hlen',Int.toNat_natCast]; omega,?_⟩⟩
       have:=(hR'.le numC.le l4).app (i:=t') (by omega) e3 hxl (numC.le l4 _ _ hx) (o':=o3) (by simp only[if_true]; exact r6.imp (numC.le l4)) ha
       rw[i64w (by omega) (by omega)]
       refine⟨⟨t',k+1,rfl,htn',by omega,by omega,by simp[hlen'],?_⟩,by omega⟩
       have e1:(0+Int.toNat (t':Int)*1)=t':=by omega
       rw[e1]
       refine this.congr λi hi => ?_
       by_cases e:i=t'
       . subst e
         simp only[if_true]
         rw[show C k i=u09 A w C i (w+k)by unfold u09; rw[if_neg (by omega),Nat.add_sub_cancel_left],m0a]; rfl
       . simp[e]
     . simp only[decide_eq_false_iff_not]at hge2
       have e:k=u:=by omega
       subst e
       rw[i64w (by omega) (by omega)]
       refine⟨⟨t'+1,by omega,by omega,hlen',hR'.congr λi hi => ?_⟩,by omega⟩
       by_cases e:i=t'<;>simp[e]
 . simp only[decide_eq_false_iff_not]at hge
   intro b3 hb3 hb4
   have e:t=n:=by omega
   subst e
   rw[Int.toNat_natCast]
   exact⟨_,rfl,hR.mat hlen hb3⟩
theorem z0c{m V:View}{p:Sl}{n w:Nat}{A:Nat->Nat->Cq}(Q:Nat->Cq->Prop)(h:MatR 5 numC m V p n w A)(hn:n<=w)(hw:w<=2^20)
 (q1:∀c x,c<=n->Q c x->okN x) (q2:∀c x y z u,Q c x->Q c y->Q c z->Q c u->Q (c+1) (numO.sub x (numO.mul (numO.div y z) u))) (q3:∀c x,Q c x->Q (c+1) x) (hA:∀i j,i<n->j<w->Q 0 (A i j)) :
 O02 Tryz.prog k0b #[p.v] m V λv m' V'=>v = .tuple #[.int .i64 ((elim numO n w A).2.1:Nat),.int .i64 (match (elim numO n w A).2.2 with|none => -1|some c=>(c:Int))]/\MatR 5 numC m' V' p n w (elim numO n w A).1:=by
 have hl:=h.len
 refine a0b m p V _
  (λ_ x V'=>∃(c s:Nat) (B:Nat->Nat->Cq),x.t13=c/\x.t4=s/\c<=n/\s<=c/\MatR 5 numC x.o0 V' p n w B/\X08 numO n w (n-c) c B s=elim numO n w A/\∀i j,i<n->j<w->Q c (B i j))
  (λ_ x _=>n-x.t13.toNat)
  (λc x V'=>∃(k s:Nat) (B:Nat->Nat->Cq),c.t13=k/\c.t4=s/\k<n/\s<=k/\MatR 5 numC c.o0 V' p n w B/\X08 numO n w (n-k) k B s=elim numO n w A/\(∀i j,i<n->j<w->Q k (B i j))/\x.t6=(pivF numO B k n:Nat))
  (λc x V'=>∃(k s:Nat) (B:Nat->Nat->Cq) (t:Nat),c.t13=k/\c.t4=s/\k<n/\s<=k/\MatR 5 numC c.o0 V' p n w B/\X08 numO n w (n-k) k B s=elim numO n w A/\(∀i j,i<n->j<w->Q k (B i j))/\x.t6=t/\k<=t/\t<=n/\∀q,k<=q->q<t->numO.clr (B q k)=false)
  (λ_ x _=>n-x.t6.toNat)
  (λc x V'=>∃(k s:Nat) (B:Nat->Nat->Cq),c.t13=k/\x.t4=s/\k<n/\s<=k+1/\MatR 5 numC x.o0 V' p n w B/\X08 numO n w (n-(k+1)) (k+1) (colF numO w B k n) s=elim numO n w A/\(∀i j,i<n->j<w->Q k (B i j))/\numO.clr (B k k)=true)
  (λc x V'=>∃(k s:Nat) (B:Nat->Nat->Cq) (R:Nat),c.t13=k/\c.t4=s/\k<n/\s<=k+1/\x.t7=R/\k<R/\R<=n/\MatR 5 numC x.o0 V' p n w (colF numO w B k R)/\X08 numO n w (n-(k+1)) (k+1) (colF numO w B k n) s=elim numO n w A/\(∀i j,i<n->j<w->Q k (B i j))/\numO.clr (B k k)=true)
  (λ_ x _=>n-x.t7.toNat)
  (λc x V'=>∃(k s:Nat) (B:Nat->Nat->Cq) (R K:Nat),c.t13=k/\c.t4=s/\k<n/\s<=k+1/\c.t7=R/\k<R/\R<n/\x.t10=K/\k<K/\K<=w/\atN V' c.o8 (numO.div (B R k) (B k k)) /\
    MatR 5 numC x.o0 V' p n w (rowF numO (colF numO w B k R) k R (numO.div (B R k) (B k k)) K)/\X08 numO n w (n-(k+1)) (k+1) (colF numO w B k n) s=elim numO n w A/\(∀i j,i<n->j<w->Q k (B i j))/\numO.clr (B k k)=true)
  (λ_ x _=>w-x.t10.toNat) ?_
 rw[hl]
 refine⟨⟨0,0,A,rfl,rfl,by omega,by omega,h,by rw[Nat.sub_zero]; rfl,hA⟩,?_⟩
 rintro⟨t4,t13,o0⟩ V1 l1 ⟨c,s,B,e13,e4,hc,hs,hM,hE,hQ⟩
 dsimp only at e13 e4 hM ⊢
 subst e13; subst e4
 refine⟨λhlt=>⟨⟨⟨c,s,B,c,rfl,rfl,by simp at hlt; omega,hs,hM,hE,hQ,rfl,by omega,hc,λq h1 h2=>by omega⟩,?_⟩,?_⟩,λhge => ?_⟩
 ·
   rintro⟨t6⟩ V3 l3 ⟨k,s',B',t,e13,e4,hk,hs',hM',hE',hQ',e6,h1,h2,h3⟩
   dsimp only at e13 e4 e6 hM' ⊢
   obtain rfl:c=k:=by omega
   obtain rfl:s=s':=by omega
   subst e6
   refine⟨λhlt2 => ?_,λhge2 => ?_⟩
   . simp only[decide_eq_true_eq]at hlt2
     have ht:t<n:=by omega
     obtain⟨g1,sl,g2,g3,g4,g5,g6,g7,g8⟩:=hM'.row ht
     obtain⟨x,hx,hxl,hh,hsm⟩:=g7 c (by omega)
     obtain⟨y,ey,hy⟩:=elN hx
     subst ey
     refine⟨⟨by omega,by omega,g1⟩,sl,.inl (by rw[Int.toNat_natCast]; exact g2),⟨by omega,by omega,g5 (by omega)⟩,y,by rw[Int.toNat_natCast]; exact hh,by rw[Int.toNat_natCast]; exact hsm,?_⟩
     refine(n0w hy (q1 c _ (by omega) (hQ' t c ht (by omega)))).mono λv V4 l4 hv=>⟨_,hv,λhb => ?_,λhb => ?_⟩
     . rw[i64w (by omega) (by omega)]
       refine⟨⟨c,s,B',t+1,rfl,rfl,hk,hs',hM'.le numC.le l4,hE',hQ',by omega,by omega,by omega,λq hq1 hq2 => ?_⟩,by omega⟩
       by_cases e:q=t
       . subst e; simpa using hb
       . exact h3 q hq1 (by omega)
     . refine⟨c,s,B',rfl,rfl,hk,hs',hM'.le numC.le l4,hE',hQ',?_⟩
       rw[B0r numO B' h1 h2 h3 (λ_=>by simpa using hb)]
   . simp only[decide_eq_false_iff_not]at hge2
     have e:t=n:=by omega
     refine⟨c,s,B',rfl,rfl,hk,hs',hM',hE',hQ',?_⟩
     rw[B0r numO B' h1 h2 h3 (λh=>by omega)]
 ·
   rintro⟨t6⟩ V2 l2 ⟨k,s',B',e13,e4,hk,hs',hM',hE',hQ',e6⟩
   dsimp only at e13 e4 e6 hM' ⊢
   obtain rfl:c=k:=by omega
   obtain rfl:s=s':=by omega
   subst e6
   obtain⟨p1,p2,p3,p4⟩:=U0c numO B' (c:=c) (n:=n) (by omega)
   refine⟨λheq => ?_,λhne=>⟨⟨λhsw => ?_,λhns => ?_⟩,?_⟩⟩
   . have e:pivF numO B' c n=n:=by simp at heq; omega
     rw[<-hE',b0q numO n w hk B' s e]
     exact⟨rfl,hM'⟩
   . have hpn:pivF numO B' c n<n:=by simp at hne; omega
     have hpc:pivF numO B' c n≠c:=by simp at hsw; omega
     obtain⟨g1,sc,g2,_⟩:=hM'.row hk
     obtain⟨_,sp,k2,_⟩:=hM'.row hpn
     obtain⟨b1,c1,l1',u1,u2,u3,b2,c2,l2',u4,u5,u6,u7⟩:=hM'.swap (by omega) hk hpn g2 k2
     refine⟨⟨by omega,by omega,g1⟩,sc,.inl (by rw[Int.toNat_natCast]; exact g2),⟨by omega,by omega,g1⟩,sp,.inl (by rw[Int.toNat_natCast]; exact k2),⟨by omega,by omega,g1⟩,b1,c1,l1',by rw[Int.toNat_natCast]; exact u1,u2,u3,⟨by omega,by omega,g1⟩,b2,c2,l2',by rw[Int.toNat_natCast]; exact u4,u5,u6,?_⟩
     rw[b0o numO n w hk B' s (by omega),if_neg hpc]at hE'
     have ep:B0b B' c (pivF numO B' c n)=j0k B' c (pivF numO B' c n):=by unfold B0b; rw[if_neg hpc]
     rw[i64w (by omega) (by omega)]
     refine⟨c,s+1,j0k B' c (pivF numO B' c n),rfl,by omega,hk,by omega,u7,by rw[<-ep]; exact hE',λi j hi hj => ?_,?_⟩
     . unfold j0k
       split
       . exact hQ' _ j hpn hj
       . split
         . exact hQ' _ j hk hj
         . exact hQ' i j hi hj
     . simp only[j0k,if_true]; exact p4 hpn
   . have hpc:pivF numO B' c n=c:=by simp at hns; omega
     have hpn:pivF numO B' c n<n:=by omega
     rw[b0o numO n w hk B' s (by omega),if_pos hpc]at hE'
     have ep:B0b B' c (pivF numO B' c n)=B':=by unfold B0b; rw[if_pos hpc]
     rw[ep]at hE'
     exact⟨c,s,B',rfl,rfl,hk,by omega,hM',hE',hQ',by have:=p4 hpn; rw[hpc]at this; exact this⟩
   ·
     clear p1 p2 p3 p4 hE' hQ' hM'
     rintro⟨t4',o0'⟩ V5 l5 ⟨k,s2,B2,e13',e4',hk2,hs2,hM2,hE2,hQ2,hcl⟩
     dsimp only at e13' e4' hM2 ⊢
     obtain rfl:c=k:=by omega
     subst e4'
     refine⟨⟨c,s2,B2,c+1,rfl,rfl,hk,hs2,by rw[i64w (by omega) (by omega)]; omega,by omega,by omega,by rw[Z0p]; exact hM2,hE2,hQ2,hcl⟩,?_⟩
     clear hM2 hE2 hQ2 hcl
     rintro⟨t7,o0''⟩ V6 l6 ⟨k,s3,B3,R,f13,f4,hk3,hs3,f7,hkR,hRn,hM3,hE3,hQ3,hcl3⟩
     dsimp only at f13 f4 f7 hM3 ⊢
     obtain rfl:c=k:=by omega
     obtain rfl:s2=s3:=by omega
     subst f7
     refine⟨λhlt2 => ?_,λhge2 => ?_⟩
     . simp only[decide_eq_true_eq]at hlt2
       have hR:R<n:=by omega
       obtain⟨g1,sr,g2,g3,g4,g5,g6,g7,g8⟩:=hM3.row hR
       obtain⟨_,sc,k2,k3,k4,k5,k6,k7,k8⟩:=hM3.row hk
       obtain⟨x,hx,hxl,hh,hsm⟩:=g7 c (by omega)
       obtain⟨x',hx',hxl',hh',hsm'⟩:=k7 c (by omega)
       rw[a0o]at hx
       rw[Z0n]at hx'
       obtain⟨y,ey,hy⟩:=elN hx
       obtain⟨y',ey',hy'⟩:=elN hx'
       subst ey; subst ey'
       refine⟨⟨by omega,by omega,g1⟩,sr,.inl (by rw[Int.toNat_natCast]; exact g2),⟨by omega,by omega,g5 (by omega)⟩,y,by rw[Int.toNat_natCast]; exact hh,by rw[Int.toNat_natCast]; exact hsm,
        ⟨by omega,by omega,g1⟩,sc,.inl (by rw[Int.toNat_natCast]; exact k2),⟨by omega,by omega,k5 (by omega)⟩,y',by rw[Int.toNat_natCast]; exact hh',by rw[Int.toNat_natCast]; exact hsm',?_⟩
       have qR:=hQ3 R c hR (by omega)
       have qc:=hQ3 c c hk (by omega)
       refine(divN hy hy' (q1 c _ (by omega) qR) (q1 c _ (by omega) qc) hcl3).mono λv V7 l7 ⟨r2,hv,hr2⟩=>⟨r2,0,hv,⟨c,s2,B3,R,c+1,rfl,rfl,hk,hs3,rfl,hkR,hR,by rw[i64w (by omega) (by omega)]; omega,by omega,by omega,hr2,?_,hE3,hQ3,hcl3⟩,?_⟩
       . rw[a0q]; exact hM3.le numC.le l7
       . clear hM3 g1 g2 g3 g4 g5 g6 g7 g8 k2 k3 k4 k5 k6 k7 k8 hh hsm hh' hsm' hx hx' hy hy'
         rintro⟨t10,o0'''⟩ V8 l8 ⟨k,s4,B4,R',K,d13,d4,hk4,hs4,d7,hkR4,hR4,d10,hkK,hKw,hf,hM4,hE4,hQ4,hcl4⟩
         dsimp only at d13 d4 d7 d10 hf hM4 ⊢
         obtain rfl:c=k:=by omega
         obtain rfl:s2=s4:=by omega
         obtain rfl:R=R':=by omega
         subst d10
         obtain⟨g1,sr,g2,g3,g4,g5,g6,g7,g8⟩:=hM4.row hR
         refine⟨⟨by omega,by omega,g1⟩,sr,.inl (by rw[Int.toNat_natCast]; exact g2),λhlt3 => ?_,λhge3 => ?_⟩
         . simp only[decide_eq_true_eq]at hlt3
           have hK:K<w:=by omega
           obtain⟨_,sc,k2,k3,k4,k5,k6,k7,k8⟩:=hM4.row hk
           obtain⟨x,hx,hxl,hh,hsm⟩:=g7 K hK
           obtain⟨x',hx',hxl',hh',hsm'⟩:=k7 K hK
           rw[Y0v,a0o]at hx
           rw[X0v numO _ _ _ (by omega),Z0n]at hx'
           obtain⟨y,ey,hy⟩:=elN hx
           obtain⟨y',ey',hy'⟩:=elN hx'
           subst ey; subst ey'
           have qR:=hQ4 R c hR (by omega)
           have qc:=hQ4 c c hk (by omega)
           have qRK:=hQ4 R K hR hK
           have qcK:=hQ4 c K hk hK
           refine⟨⟨by omega,by omega,g1⟩,sr,.inl (by rw[Int.toNat_natCast]; exact g2),⟨by omega,by omega,g1⟩,sr,.inl (by rw[Int.toNat_natCast]; exact g2),⟨by omega,by omega,g5 (by omega)⟩,y,by rw[Int.toNat_natCast]; exact hh,by rw[Int.toNat_natCast]; exact hsm,
            ⟨by omega,by omega,g1⟩,sc,.inl (by rw[Int.toNat_natCast]; exact k2),⟨by omega,by omega,k5 (by omega)⟩,y',by rw[Int.toNat_natCast]; exact hh',by rw[Int.toNat_natCast]; exact hsm',?_⟩
           refine(S0w hf hy' (q1 c _ (by omega) qR) (q1 c _ (by omega) qc) (q1 c _ (by omega) qcK)).mono λv V9 l9 ⟨r4,hv,hr4⟩=>⟨r4,hv,?_⟩
           refine(T0w (atN.le l9 hy) hr4 (q1 c _ (by omega) qRK) (q1 c _ (by omega) qR) (q1 c _ (by omega) qc) (q1 c _ (by omega) qcK)).mono λv V10 l10 ⟨r5,hv,hr5⟩=>⟨r5,hv,⟨by omega,by omega,g5 (by omega)⟩,?_⟩
           obtain⟨v1,v2,b3,c3,l3,v3,v4,v5,v6⟩:=(hM4.le numC.le (View.le_trans l9 l10)).put hR hK (lenN r5) (F0t hr5) g2
           refine⟨b3,c3,l3,by rw[Int.toNat_natCast]; exact v3,v4,v5,?_⟩
           rw[i64w (by omega) (by omega)]
           refine⟨⟨c,s2,B4,R,K+1,rfl,rfl,hk,hs4,rfl,hkR,hR,by omega,by omega,by omega,atN.le (View.le_trans l9 l10) hf,?_,hE4,hQ4,hcl4⟩,by omega⟩
           have e:=C0r numO (colF numO w B4 c R) (c:=c) (R:=R) (numO.div (B4 R c) (B4 c c)) hkK
           rw[<-e,a0o,Z0n]; exact v6
         . simp only[decide_eq_false_iff_not]at hge3
           have e:K=w:=by omega
           subst e
           rw[i64w (by omega) (by omega)]
           rw[l0t numO K B4 hkR]at hM4
           exact⟨⟨c,s2,B4,R+1,rfl,rfl,hk,hs4,by omega,by omega,by omega,hM4,hE4,hQ4,hcl4⟩,by omega⟩
     . simp only[decide_eq_false_iff_not]at hge2
       have e:R=n:=by omega
       subst e
       rw[i64w (by omega) (by omega)]
       refine⟨⟨c+1,s2,colF numO w B3 c R,by omega,rfl,by omega,hs3,hM3,hE3,λi j hi hj => ?_⟩,by omega⟩
       unfold colF
       split
       . exact q2 c _ _ _ _ (hQ3 i j hi hj) (hQ3 i c hi (by omega)) (hQ3 c c hk (by omega)) (hQ3 c j hk hj)
       . exact q3 c _ (hQ3 i j hi hj)
 . simp only[decide_eq_false_iff_not]at hge
   have e:c=n:=by omega
   subst e
   rw[D0r]at hE
   rw[<-hE]
   exact⟨rfl,hM⟩
theorem n0i{V:View}{s:Sl}{row:List Cq}(h:y00 5 numC V s row)(hb:row.length<=2^30) :
 a00 Tryz.prog H05 #[s.v] V λv V'=>∃r:Sl,v=r.v/\y00 5 numC V' r row:=by
 obtain⟨hl,hc,hn,o,ho,hC⟩:=h
 refine O02.known (j08 (m:=λ_=>none) hC (.inr ho) hl (λe => ?_) hb) λv m V' V2 l e ap ⟨r,b,hv,hr,_⟩=>⟨r,hv,?_⟩
 . rcases Classical.em (row=[])with g|g
   . exact g
   . have:=hn g; rw[e]at this; simp at this
 . subst e
   exact hr.known (numC.le (H0b ap)) (λb cs g=>K07 g)
theorem o07{V:View}{p:Sl}{rows:List (List Cq)}(h:X00 5 numC V p rows) :
 a00 Tryz.prog z09 #[p.v] V λv V'=>∃g:s00,v = .tuple #[g.val,.int .i64 (l0i rows)]/\X00 5 numC V' g.rows (u0h rows):=by
 have hl:p.len=rows.length:=h.len
 have bad:∀V':View,a07 rows=false->∃g:s00,Value.tuple #[(s00.mk (Sl.mk none 0 0)).val,.int .i64 4] = .tuple #[g.val,.int .i64 (l0i rows)]/\X00 5 numC V' g.rows (u0h rows):=λV' e=>by
  refine⟨⟨⟨none,0,0⟩⟩,?_,?_⟩
  . unfold l0i; rw[e]; rfl
  . unfold u0h; rw[e]; exact y00.nil
 refine n09 p V _ (λ_ _ _=>1<=rows.length/\rows.length<=64)
  (λ_ x V'=>∃(t:Nat) (l:List Value),x.t18=t/\t<=rows.length/\C03 1 x.o4_0l x.o4_0c x.o45 l/\x.o4_0l=t/\S01 1 (λV x row=>∃s:Sl,x=[s.v]/\y00 5 numC V s row) V' l (rows.take t)/\∀row∈rows.take t,s09 (S00 rows) row=true)
  (λ_ x _=>rows.length-x.t18.toNat) ?_
 rw[hl]
 refine⟨⟨λc=>bad V ?_,λc=>⟨λc'=>bad V ?_,λc' => ?_⟩⟩,?_⟩
 . unfold a07
   have c:=of_decide_eq_true c
   have:decide (1<=rows.length)=false:=decide_eq_false (by omega)
   rw[this]; rfl
 . unfold a07
   have c':=of_decide_eq_true c'
   have:decide (rows.length<=64)=false:=decide_eq_false (by omega)
   rw[this,Bool.false_and,Bool.and_false]
 . have c:=of_decide_eq_false c
   have c':=of_decide_eq_false c'
   omega
 rintro⟨o2⟩ V1 l1 ⟨n1,n2⟩
 refine⟨⟨0,[],rfl,by omega,C03.nil,rfl,rfl,by simp⟩,?_⟩
 rintro⟨t18,o2',k,c,o⟩ V2 l2 ⟨t,l,et,ht,hL,ek,hC,hall⟩
 dsimp only at et hL ek hC ⊢
 subst et; subst ek
 have L2:=View.le_trans l1 l2
 refine⟨λhlt => ?_,λhge => ?_⟩
 . have hk:k<rows.length:=by simp at hlt; omega
   have ek:rows[k]?=some rows[k]:=List.getElem?_eq_getElem hk
   have hmem:=List.getElem_mem hk
   obtain⟨g,s,h1,h2⟩:=(X00.le numC.le L2 h).row (t:=(k:Int)) (by omega) (row:=rows[k]) (by rw[Int.toNat_natCast]; exact ek)
   have hs:s.len=rows[k].length:=h2.len
   rw[hl]at g
   have tk:rows.take (k+1)=rows.take k++[rows[k]]:=by rw[List.take_add_one,ek]; rfl
   generalize rows[k]=row at *
   have no:s09 (S00 rows) row=false->a07 rows=false:=λe=>by
    unfold a07
    rw[List.all_eq_false.2 ⟨row,hmem,by rw[e]; simp⟩,Bool.and_false,Bool.and_false]
   refine⟨g,s,h1,λc1=>bad V2 (no ?_),λc1=>⟨λc2=>bad V2 (no ?_),λc2 => ?_⟩⟩
   . unfold s09
     have c1:=of_decide_eq_true c1
     have:decide (1<=row.length)=false:=decide_eq_false (by omega)
     rw[this]; rfl
   . unfold s09
     have c2:=of_decide_eq_true c2
     have:decide (row.length<=64)=false:=decide_eq_false (by omega)
     rw[this,Bool.false_and,Bool.and_false]
   obtain⟨row0,e0,e1⟩:=e0c (rows:=rows) (by omega)
   obtain⟨g0,s0,h3,h4⟩:=(X00.le numC.le L2 h).row (t:=(0:Int)) (by omega) (row:=row0) e0
   have hs0:s0.len=S00 rows:=by rw[<-e1]; exact h4.len
   rw[hl]at g0
   refine⟨g0,s0,h3,λc3=>bad V2 (no ?_),λc3 => ?_⟩
   . unfold s09
     have:decide (row.length=S00 rows)=false:=decide_eq_false (λe=>by rw[hs,hs0,e]at c3; simp at c3)
     rw[this,Bool.and_false,Bool.and_false]
   have ok:s09 (S00 rows) row=true:=by
    have c1:=of_decide_eq_false c1
    have c2:=of_decide_eq_false c2
    have c3:row.length=S00 rows:=by rw[hs,hs0]at c3; simp at c3; omega
    unfold s09
    rw[decide_eq_true (show 1<=row.length by omega),decide_eq_true (show row.length<=64 by omega),decide_eq_true c3]; rfl
   refine(n0i h2 (by have:=of_decide_eq_false c2; omega)).mono λv V3 l3 ⟨r1,hv,hr⟩=>⟨r1,hv,λb1 V4 l4 _ hb1 => ?_⟩
   have hnew:V4.has (some (Addr.mk b1 0 none)) [r1.v]:=P04 (cs:=[r1.v]) (j:=0) hb1 (λi v hv=>by rw[Nat.zero_add]; exact hv) rfl
   refine⟨l,_,hL,hnew,rfl,by intro v hv; simp at hv; subst hv; rfl,by unfold maxLen; omega,by omega,λc1 l3' hl3 => ?_⟩
   rw[i64w (by omega) (by omega)]
   have L24:=View.le_trans l3 l4
   refine⟨⟨k+1,_,by omega,by omega,hl3,rfl,?_,λrow' hr' => ?_⟩,by omega⟩
   . rw[tk]
     exact(hC.imp λ_ _ ⟨s,e,hs⟩=>⟨s,e,y00.le (numC.le L24) L24 hs⟩).append (S01.one rfl ⟨_,rfl,y00.le (numC.le l4) l4 hr⟩)
   . rw[tk]at hr'
     rcases List.mem_append.1 hr' with hr'|hr'
     . exact hall row' hr'
     . rw[show row'=row by simpa using hr']; exact ok
 . have e:k=rows.length:=by simp at hge; omega
   subst e
   rw[List.take_length]at hC hall
   intro b2 V5 l5 hb2
   have ok:a07 rows=true:=by
    unfold a07
    simp only[Bool.and_eq_true,decide_eq_true_eq,List.all_eq_true]
    exact⟨n1,n2,hall⟩
   refine⟨⟨⟨lstA b2 c,rows.length,c⟩⟩,by unfold l0i; rw[ok]; rfl,?_⟩
   unfold u0h; rw[if_pos ok]
   exact z06 hL hb2 (hC.imp λ_ _ ⟨s,e,hs⟩=>⟨s,e,y00.le (numC.le l5) l5 hs⟩) rfl
theorem u02{V:View}{g:s00}{rows:List (List Cq)}(h:X00 5 numC V g.rows rows) :
 a00 Tryz.prog q08 #[g.val] V λv _=>v = .tuple #[.int .i64 (rows.length:Int),.int .i64 (S00 rows:Int)]:=by
 have hl:g.rows.len=rows.length:=h.len
 refine O07 g V _ ⟨λc => ?_,λc => ?_⟩
 . have e:rows=[]:=List.length_eq_zero_iff.1 (by simp at c; omega)
   subst e; rfl
 . obtain⟨row0,e0,e1⟩:=e0c (rows:=rows) (by simp at c; omega)
   obtain⟨g0,s0,h3,h4⟩:=h.row (t:=(0:Int)) (by omega) (row:=row0) e0
   refine⟨g0,s0,h3,?_⟩
   rw[h4.len,e1,hl]
theorem A0g{m V:View}{g:s00}{rows:List (List Cq)}{i:Int}(h:X00 5 numC V g.rows rows)(hb:∀row,row∈rows->row.length<=2^30) :
 O02 Tryz.prog x08 #[g.val,.int .i64 i] m V λv m' V'=>∃(r:Sl) (e:Int),v = .tuple #[r.v,.int .i64 e] /\
  (0<=i/\i<rows.length->e=0/\∃b:Nat,RowR 5 numC m' V' r b (rows.getD i.toNat [])/\(rows.getD i.toNat []≠[]->m b=none)/\(∀k,k≠b\/rows.getD i.toNat []=[]->m' k=m k)) /\
  (¬(0<=i/\i<rows.length)->e=1/\r=⟨none,0,0⟩/\m'=m):=by
 have hl:g.rows.len=rows.length:=h.len
 refine Z07 m g i V _ ⟨λc => ?_,λc=>⟨λc' => ?_,λc' => ?_⟩⟩
 . have c:=of_decide_eq_true c
   exact⟨_,_,rfl,λk=>absurd k.1 (by omega),λ_=>⟨rfl,rfl,rfl⟩⟩
 . have c':=of_decide_eq_true c'
   exact⟨_,_,rfl,λk=>absurd k.2 (by omega),λ_=>⟨rfl,rfl,rfl⟩⟩
 . have c:=of_decide_eq_false c
   have c':=of_decide_eq_false c'
   have hi:i.toNat<rows.length:=by omega
   have ek:rows[i.toNat]?=some (rows.getD i.toNat []):=by simp[List.getD,hi]
   obtain⟨g1,s,h1,h2⟩:=h.row (t:=i) (by omega) ek
   obtain⟨sl,_,hn,o,ho,hC⟩:=h2
   refine⟨g1,s,.inr h1,(j08 hC (.inr ho) sl (λe => ?_) (hb _ (List.mem_of_getElem? ek))).mono λv m1 V1 l1 _ ⟨r,b,hv,hr,k1,k2⟩=>⟨r,hv,r,0,rfl,λ_=>⟨rfl,b,hr,k1,k2⟩,λk=>absurd ⟨by omega,by omega⟩ k⟩⟩
   rcases Classical.em (rows.getD i.toNat []=[])with g|g
   . exact g
   . have:=hn g; rw[e]at this; simp at this
theorem F0h{V:View}{g:s00}{rows:List (List Cq)}{i j:Int}(h:X00 5 numC V g.rows rows)(hr:Rect rows)(d:Cq) :
 a00 Tryz.prog I08 #[g.val,.int .i64 i,.int .i64 j] V λv V'=>∃(r:NumV) (e:Int),v = .tuple #[r.val,.int .i64 e] /\
  ((0<=i/\i<rows.length)/\(0<=j/\j<S00 rows)->e=0/\numC V' r.val.cells.toList ((rows.getD i.toNat []).getD j.toNat d)) /\
  (¬((0<=i/\i<rows.length)/\(0<=j/\j<S00 rows))->e=1):=by
 refine s08 g i j V _ ((u02 h).mono λv V1 l1 hv=>⟨_,_,hv,λc => ?_,λc=>⟨λc2 => ?_,λc2=>⟨λc3 => ?_,λc3=>⟨λc4 => ?_,λc4 => ?_⟩⟩⟩⟩)
 . have c:=of_decide_eq_true c
   exact⟨_,_,rfl,λk=>absurd k.1.1 (by omega),λ_=>rfl⟩
 . have c2:=of_decide_eq_true c2
   exact⟨_,_,rfl,λk=>absurd k.1.2 (by omega),λ_=>rfl⟩
 . have c3:=of_decide_eq_true c3
   exact⟨_,_,rfl,λk=>absurd k.2.1 (by omega),λ_=>rfl⟩
 . have c4:=of_decide_eq_true c4
   exact⟨_,_,rfl,λk=>absurd k.2.2 (by omega),λ_=>rfl⟩
 . have c:=of_decide_eq_false c
   have c2:=of_decide_eq_false c2
   have c3:=of_decide_eq_false c3
   have c4:=of_decide_eq_false c4
   have hi:i.toNat<rows.length:=by omega
   have ek:rows[i.toNat]?=some (rows.getD i.toNat []):=by simp[List.getD,hi]
   obtain⟨g1,s,h1,h2⟩:=(X00.le numC.le l1 h).row (t:=i) (by omega) ek
   have hrl:=P0e hr ek
   have hj:j.toNat<(rows.getD i.toNat []).length:=by omega
   obtain⟨g2,x,hx,_,hh,hs⟩:=y00.get h2 (t:=j) (by omega) (z:=(rows.getD i.toNat []).getD j.toNat d) (g08 hj d)
   obtain⟨y,ey⟩:∃y:NumV,x=y.val.cells.toList:=by obtain⟨y,e,_⟩:=hx; exact⟨_,e⟩
   subst ey
   exact⟨g1,s,h1,g2,y,hh,hs,_,_,rfl,λ_=>⟨rfl,hx⟩,λk=>absurd ⟨⟨by omega,by omega⟩,by omega,by omega⟩ k⟩
theorem o0a{V:View}{g:s00}{rows:List (List Cq)}(h:X00 5 numC V g.rows rows)(hr:Rect rows)(hn:rows.length<=2^20)(hw:S00 rows<=2^20)(d:Cq) :
 a00 Tryz.prog D03 #[g.val] V λv V'=>∃r:s00,v=r.val/\X00 5 numC V' r.rows (g0e d rows):=by
 have hl:g.rows.len=rows.length:=h.len
 let n:=rows.length
 let w:=S00 rows
 let A:Nat->Nat->Cq:=λj i=>atG d rows i j
 refine x07 g V _
  (λ_ x V'=>∃k:Nat,x.t18=k/\k<=S00 rows/\x.o15.length=S00 rows/\E03 5 numC x.o0 V' x.o15 (S00 rows) (λi=>if i<k then rowL rows.length (A i)else [])) (λ_ x _=>S00 rows-x.t18.toNat)
  (λc x V'=>∃k j:Nat,c.t18=k/\k<S00 rows/\x.t24=j/\j<=rows.length/\x.o15.length=S00 rows/\E03 5 numC x.o0 V' x.o15 (S00 rows) (λi=>if i<k then rowL rows.length (A i)else if i=k then rowL j (A k)else [])) (λ_ x _=>rows.length-x.t24.toNat) ?_
 refine(u02 h).mono λv V1 l1 hv=>⟨_,_,hv,?_⟩
 rw[Int.toNat_natCast,hl]
 refine⟨⟨by omega,by omega,by omega,by omega⟩,⟨0,rfl,by omega,by simp,?_⟩,?_⟩
 . rw[W0p]; exact(D0d V1 (S00 rows)).congr λi _=>by rw[if_neg (by omega)]
 rintro⟨t18,o0,o2,o15⟩ V3 l3 ⟨k,ek,hk,hol,hR⟩
 dsimp only at ek hol hR ⊢
 subst ek
 refine⟨λhlt=>⟨⟨k,0,rfl,by simp at hlt; omega,rfl,by omega,hol,hR.congr λi hi => ?_⟩,?_⟩,λhge => ?_⟩
 . by_cases e:i<k
   . rw[if_pos e,if_pos e]
   . rw[if_neg e,if_neg e]
     split<;>rfl
 . rintro⟨t24,o0',o15'⟩ V4 l4 ⟨k',j,ek,hkw,ej,hj,hol',hR'⟩
   dsimp only at ek ej hol' hR' ⊢
   obtain rfl:k=k':=by omega
   subst ej
   refine⟨λhlt2 => ?_,λhge2 => ?_⟩
   . have hjn:j<rows.length:=by simp at hlt2; omega
     obtain⟨s3,e3,r1,r2,r3,⟨o3,r4,r5,r6⟩,r7⟩:=hR'.row (i:=k) hkw
     rw[if_neg (by omega),if_pos rfl]at r1 r6
     rw[k00]at r1
     have ejr:=g08 hjn []
     obtain⟨g1,s,g2,g3⟩:=(X00.le numC.le (View.le_trans l1 (View.le_trans l3 l4)) h).row (t:=(j:Int)) (by omega) (row:=rows.getD j []) (by rw[Int.toNat_natCast]; exact ejr)
     rw[hl]at g1
     have hkr:k<(rows.getD j []).length:=by rw[P0e hr ejr]; exact hkw
     obtain⟨d1,x,hx,hxl,hh,hs⟩:=y00.get g3 (t:=(k:Int)) (by omega) (z:=A k j) (by rw[Int.toNat_natCast]; exact g08 hkr d)
     obtain⟨y,ey⟩:∃y:NumV,x=y.val.cells.toList:=by obtain⟨y,e,_⟩:=hx; exact⟨_,e⟩
     subst ey
     refine⟨g1,s,.inr g2,⟨by omega,by omega⟩,s3,by rw[Int.toNat_natCast,Nat.mul_one,Nat.zero_add]; exact e3,d1,y,.inr hh,hs,λb2 V6 l6 _ hb2 => ?_⟩
     have hnew:V6.has (some (Addr.mk b2 0 none)) y.val.cells.toList:=P04 (cs:=y.val.cells.toList) (j:=0) hb2 (λi v hv=>by rw[Nat.zero_add]; exact hv) rfl
     have hrc:numC V6 y.val.cells.toList (A k j):=numC.le l6 _ _ hx
     refine⟨o3,_,⟨r2,r3⟩,A0c l6 r4,r5,.inr hnew,rfl,oneN hrc,by unfold maxLen; omega,by omega,λ_ h2=>r7 1 (by omega) h2,λa1 c1 m1 ha=>⟨⟨by omega,by omega⟩,by rw[hol',Int.toNat_natCast]; omega,?_⟩⟩
     have:=(hR'.le numC.le l6).app (i:=k) hkw e3 (z:=A k j) rfl hrc (o':=o3) (by rw[if_neg (by omega),if_pos rfl]; exact r6.imp (numC.le l6)) ha
     rw[i64w (by omega) (by omega)]
     refine⟨⟨k,j+1,rfl,hkw,by omega,by omega,by simp[hol'],?_⟩,by omega⟩
     have e1:(0+Int.toNat (k:Int)*1)=k:=by omega
     rw[e1]
     refine this.congr λi hi => ?_
     by_cases e:i=k
     . subst e
       simp only[if_true,Nat.lt_irrefl,if_false]
       exact m0a _ _
     . simp only[if_neg e]
   . have e:j=rows.length:=by simp at hge2; omega
     subst e
     rw[i64w (by omega) (by omega)]
     refine⟨⟨k+1,by omega,by omega,hol',hR'.congr λi hi => ?_⟩,by omega⟩
     by_cases e:i<k
     . rw[if_pos e,if_pos (by omega)]
     . rw[if_neg e]
       by_cases e2:i=k
       . subst e2; rw[if_pos rfl,if_pos (by omega)]
       . rw[if_neg e2,if_neg (by omega)]
 . have e:k=S00 rows:=by simp at hge; omega
   subst e
   refine λb3 hb3 _=>⟨by decide,λV5 l5 hm5=>⟨_,rfl,?_⟩⟩
   have hR2:E03 5 numC o0 V3 o15 (S00 rows) (λi=>rowL rows.length (A i)):=hR.congr λi hi=>by rw[if_pos hi]
   exact(hR2.mat hol hb3).known (numC.le l5) hm5
theorem k0e{V:View}{n c:Nat}{w:List Value}{f:Nat->Int}(h1:1<=n)(hn:n<=w.length)(hw:n<=2^60)(hf:∀p,p<n->w[p]?=some (.int .u8 (f p))) :
 k0f Tryz.prog l09 (λb=>(Value.slice (some ⟨b,0,none⟩) n c::[]:List Value)) T_u8 w V λv l _=>v = .tuple #[]/\l.length=w.length/\l.take n=(w.take n).reverse:=by
 refine L08 0 n c w V _ (λ_ x _=>∃i j:Nat,x.t2=(i:Int)/\x.t3=(j:Int)/\j+i=n-1/\(i<=j+1)/\x.o0=revI w n i) (λ_ x _=>(x.t3-x.t2+2).toNat) ⟨⟨0,n-1,rfl,?_,by omega,by omega,(J0r w n).symm⟩,?_⟩
 . show IntKind.i64.wrap ((n:Int)-1)=_
   rw[i64w (by omega) (by omega)]; omega
 rintro⟨t,u,o⟩ V1 l1 ⟨i,j,rfl,rfl,hij,hi,rfl⟩
 have gd:∀p,p<n->w.getD p undef = .int .u8 (f p):=λp hp=>by simp[List.getD,hf p hp]
 dsimp only
 refine⟨λhlt => ?_,λhge => ?_⟩
 . simp only[decide_eq_true_eq]at hlt
   have hij':i<j:=by omega
   rw[i64w (n:=(i:Int)+1) (by omega) (by omega),i64w (n:=(j:Int)-1) (by omega) (by omega)]
   simp only[Int.toNat_natCast,Nat.mul_one,Nat.zero_add]
   refine⟨⟨by omega,by omega⟩,f j,?_,⟨by omega,by omega⟩,f i,?_,⟨by omega,by omega⟩,by rw[b07]; omega,⟨by omega,by omega⟩,by rw[List.length_set,b07]; omega,⟨i+1,j-1,by omega,by omega,by omega,by omega,?_⟩,by omega⟩
   . rw[e0o (by omega) (by omega) (by omega),gd j (by omega)]
   . rw[e0o (by omega) (by omega) (by omega),gd i (by omega)]
   . have:=K0r (o:=w) hn hij hij'
     rw[gd i (by omega),gd j (by omega)]at this
     exact this
 . simp only[decide_eq_false_iff_not]at hge
   exact⟨rfl,b07 _ _ _,n0t hn (by omega)⟩
theorem G0t{l:List Nat}{p:Nat}(h:p<l.length):(digC l)[p]?=some (.int .u8 ((48+l.getD p 0:Nat):Int)):=by simp[digC,h]
theorem X0w{r:Nat}:IntKind.u8.wrap (IntKind.u32.wrap (48+(Int.tmod (r:Int) 10)))=((48+r%10:Nat):Int):=by
 rw[show Int.tmod (r:Int) 10=((r%10:Nat):Int)from(Int.ofNat_tmod r 10).symm,u32w (by omega) (by omega),IntWalk.u8_in _ ⟨by omega,by omega⟩]; omega
theorem u32q{r:Nat}(h:r<4294967296):IntKind.u32.wrap (Int.tdiv (r:Int) 10)=((r / 10:Nat):Int):=by
 rw[show Int.tdiv (r:Int) 10=((r / 10:Nat):Int)from(Int.ofNat_tdiv r 10).symm,u32w (by omega) (by omega)]
theorem oneC(n:Int):∀v∈[Value.int .u8 n],Value.oneCell' v=true:=by intro v hv; simp at hv; subst hv; rfl
theorem p0a{V:View}{s:Sl}{N:Nat}(h:s02 V s N)(hb:bl N<=2^42) :
 a00 Tryz.prog i0l #[s.v] V λv _=>v = .string (decS N):=by
 have hz:=h.len_zero
 have hlow:=f0j N
 refine Q0j s V _
  (λ_ x V'=>∃(X:Nat) (dl:List Nat),s02 V' x.t0 X/\X<=N/\C03 1 x.t3l x.t3c x.o3 (digC dl)/\x.t3l=dl.length/\low N=dl++low X) (λ_ x V'=>b0j V' x.t0)
  (λc x V'=>∃(q r k:Nat) (dl:List Nat),s02 V' c.t0 q/\q<=N/\x.t4=(r:Int)/\x.t5=(k:Int)/\k<=9/\r<10^(9-k)/\C03 1 x.t3l x.t3c x.o3 (digC dl)/\x.t3l=dl.length/\low N=dl++low (q*10^(9-k)+r)) (λ_ x _=>(9-x.t5).toNat)
  ⟨λh0 => ?_,λh0=>⟨⟨N,[],h,Nat.le_refl _,C03.nil,rfl,rfl⟩,?_⟩⟩
 . have:s.len=0:=by have:(s.len:Int)=0:=(by simpa using h0); omega
   rw[hz.1 this,G0r]
 have hN0:N≠0:=by
  intro e; rw[<-hz]at e; rw[e]at h0; simp at h0
 rintro⟨t0,n,c,o⟩ V1 l1 ⟨X,dl,hX,hXN,hlo,hn,hval⟩
 dsimp only at hX hlo hn ⊢
 have hXz:=hX.len_zero
 refine⟨λhp => ?_,λhp => ?_⟩
 . simp only[gt_iff_lt,decide_eq_true_eq]at hp
   have hX0:X≠0:=λe=>by rw[<-hXz]at e; omega
   have hbX:bl X<=2^42:=Nat.le_trans (f0e hXN) hb
   refine(Q0d (d:=1000000000) hX (e0k (by omega)) (by omega) (by omega)).mono λv V2 l2 ⟨r1,hv,h1⟩=>⟨r1,_,hv,⟨X / 1000000000,X%1000000000,0,dl,h1,Nat.le_trans (Nat.div_le_self _ _) hXN,rfl,rfl,by omega,?_,hlo,hn,?_⟩,?_⟩
   . exact Nat.mod_lt _ (by omega)
   . have:X / 1000000000*10^(9-0)+X%1000000000=X:=by
       rw[show(10:Nat)^(9-0)=1000000000 by decide]; omega
     rw[this]; exact hval
   rintro⟨n3,c3,r3,k3,o3⟩ V3 l3 ⟨q,r,k,dl3,hq,hqN,rfl,rfl,hk,hr,hlo3,hn3,hval3⟩
   dsimp only at hq hlo3 hn3 ⊢
   have hqe:=hq.inj (h1.le l3)
   have hlt9:r<1000000000:=Nat.lt_of_lt_of_le hr (by
    have:(10:Nat)^(9-k)<=10^9:=Nat.pow_le_pow_right (by omega) (by omega)
    exact Nat.le_trans this (by decide))
   have hl3:dl3.length<=2^42:=by
    have:=congrArg List.length hval3
    rw[List.length_append]at this; omega
   have hqz:=hq.len_zero
   have step:(q≠0\/r≠0)->k<9->∀(b1:Nat) (V4:View),V3.le V4->View.Fin V4->V4 b1=some #[.int .u8 (IntKind.u8.wrap (IntKind.u32.wrap (48+(Int.tmod (r:Int) 10))))] ->
    ∃(l1:List Value) (l2:List Value),C03 1 n3 c3 o3 l1/\View.has V4 (some (Addr.mk b1 0 none)) l2/\List.length l2=1*1/\(∀v∈l2,Value.oneCell' v=true)/\n3+1<=maxLen/\(n3+1)*1<=140737488355328 /\
    ∀(c1:Nat) (l3:List Value),C03 1 (n3+1) c1 l3 (l1++l2) ->
    (∃(q' r' k':Nat) (dl:List Nat),s02 V4 r1 q'/\q'<=N/\(IntKind.u32.wrap (Int.tdiv (r:Int) 10))=(r':Int)/\(IntKind.i64.wrap ((k:Int)+1))=(k':Int)/\k'<=9/\r'<10^(9-k')/\C03 1 (n3+1) c1 l3 (digC dl)/\n3+1=dl.length/\low N=dl++low (q'*10^(9-k')+r'))/\(9-(IntKind.i64.wrap ((k:Int)+1))).toNat<(9-(k:Int)).toNat:=by
    intro hne hk9 b1 V4 l4 _ hb1
    rw[X0w]at hb1
    have hrr:r / 10<10^(9-(k+1)):=by
     have:10^(9-k)=10^(9-(k+1))*10:=by rw[<-Nat.pow_succ]; congr 1; omega
     omega
    have hst:=m0t (q:=q) (r:=r) (k:=9-(k+1)) hne
    rw[show 9-(k+1)+1=9-k by omega]at hst
    refine⟨digC dl3,[.int .u8 ((48+r%10:Nat):Int)],hlo3,E0b hb1,rfl,oneC _,Nat.le_trans (show n3+1<=2^43 by omega) (by decide),by omega,λc1 l3' hl3'=>⟨⟨q,r / 10,k+1,dl3++[r%10],hq.le l4,hqN,u32q (by omega),by rw[i64w (by omega) (by omega)]; omega,hk9,hrr,?_,by simp[hn3],?_⟩,by rw[i64w (by omega) (by omega)]; omega⟩⟩
    . rw[<-j0n]; exact hl3'
    . rw[hval3,hst]; simp
   have stop:(k=9\/q=0/\r=0)->(∃(X:Nat) (dl:List Nat),s02 V3 r1 X/\X<=N/\C03 1 n3 c3 o3 (digC dl)/\n3=dl.length/\low N=dl++low X)/\b0j V3 r1<b0j V1 t0:=by
    intro hs
    refine⟨⟨q,dl3,hq,hqN,hlo3,hn3,?_⟩,?_⟩
    . rcases hs with rfl|⟨rfl,rfl⟩
      . have:r=0:=by simp at hr; omega
        subst this
        simpa using hval3
      . simpa using hval3
    . rw[K0e hq,K0e hX,hqe]
      omega
   refine⟨λhk9=>⟨λhq1=>⟨λ_=>step (.inl ?_) (by have:(k:Int)<9:=(by simpa using hk9); omega),λh=>absurd h (by simp)⟩,λhq1=>⟨λhr1=>step (.inr ?_) (by have:(k:Int)<9:=(by simpa using hk9); omega),λhr1=>stop (.inr ⟨?_,?_⟩)⟩⟩,λhk9=>⟨λh=>absurd h (by simp),λ_=>stop (.inl ?_)⟩⟩
   . simp only[gt_iff_lt,decide_eq_true_eq]at hq1
     intro e; rw[<-hqz]at e; omega
   . simp only[gt_iff_lt,decide_eq_true_eq]at hr1; omega
   . simp only[gt_iff_lt,decide_eq_false_iff_not]at hq1; exact hqz.1 (by omega)
   . simp only[gt_iff_lt,decide_eq_false_iff_not]at hr1; omega
   . simp only[decide_eq_false_iff_not]at hk9; omega
 . simp only[gt_iff_lt,decide_eq_false_iff_not]at hp
   have hX0:X=0:=hXz.1 (by omega)
   rw[hX0,l0k,List.append_nil]at hval
   subst hval
   have hd0:low N≠[]:=by rw[m0k hN0]; simp
   have hl0:0<(low N).length:=List.length_pos_iff.2 hd0
   have hle:=hlo.le
   have htk:=hlo.take
   have hol:=hlo.len
   rw[Nat.mul_one]at htk hol
   have htl:n<=o.length:=by omega
   have g:∀p,p<n->o[p]?=some (.int .u8 (((48+(low N).getD p 0:Nat):Nat):Int)):=by
    intro p hp'
    rw[<-List.getElem?_take_of_lt hp',htk]
    exact G0t (by omega)
   refine⟨⟨by intro e; rw[e]at htl; simp at htl; omega,⟨by omega,trivial⟩,trivial⟩,?_⟩
   refine(k0e (c:=c) (f:=λp=>((48+(low N).getD p 0:Nat):Int)) (by omega) htl (by omega) g).mono λv l10 V7 l7 ⟨hv,hl10,ht10⟩=>⟨hv,λb4 V8 l8 hb4 => ?_⟩
   refine⟨decL N,?_,by rw[x0h hN0]; omega,rfl,rfl⟩
   rw[htk,o0t hN0]at ht10
   intro j v hj
   have hjl:j<n:=by
    rcases Nat.lt_or_ge j n with h|h
    . exact h
    . rw[List.getElem?_eq_none (by simp[x0h hN0]; omega)]at hj; simp at hj
   rw[G07 hb4]
   rw[<-ht10,List.getElem?_take_of_lt hjl]at hj
   simpa using hj
def q0a(a:Int)(d:Nat):Cq:=⟨(a:Rat) / (d:Rat),0⟩
theorem S0l{a:Int}{d:Nat}(h:d≠0):Rep (q0a a d) a 0 d:=⟨h,rfl,by show(0:Rat)=_; rw[Rat.div_def]; simp⟩
theorem e0u(z:Cq):(⟨z.re,0⟩:Cq)=q0a z.A z.D:=Cq.ext' z.canon.rep.re rfl
theorem f0u(z:Cq):(⟨z.im,0⟩:Cq)=q0a z.B z.D:=Cq.ext' z.canon.rep.im rfl
theorem c0s{a:Int}{d:Nat}(h:d≠0):(q0a a d).A.natAbs=a.natAbs / Nat.gcd a.natAbs d/\(q0a a d).D=d / Nat.gcd a.natAbs d/\((q0a a d).A<0↔a<0):=by
 obtain⟨e1,e2,e3⟩:=(S0l (a:=a) h).eqs
 have hg:gcd3 a 0 d=Nat.gcd a.natAbs d:=by simp[gcd3]
 have d1:=L0e a 0 d
 have k1:=B08 d1
 have k2:=e0e d1 (c0k a 0 h)
 rw[e1,e3,k1,hg]
 rw[hg]at k2
 exact⟨rfl,rfl,by simpa using k2⟩
theorem o0o{a:Int}{d:Nat}(h:d≠0):bl (q0a a d).A.natAbs<=bl a.natAbs/\bl (q0a a d).D<=bl d:=by
 obtain⟨e1,e2,_⟩:=c0s (a:=a) h
 rw[e1,e2]
 exact⟨f0e (Nat.div_le_self _ _),f0e (Nat.div_le_self _ _)⟩
def ratT(a:Int)(d:Nat):ByteArray:=ratS (q0a a d).A (q0a a d).D
theorem i0c{V:View}{x:WhV}{s:Sl}{a:Int}{d:Nat}(hx:l07 V x a)(hs:s02 V s d)(hd:d≠0)(ha:bl a.natAbs<=2^41)(hdb:bl d<=2^41) :
 a00 Tryz.prog o0p #[x.val,s.v] V λv _=>v = .string (ratT a d):=by
 obtain⟨b1,b2⟩:=o0o (a:=a) hd
 have s1:=Q0e (q0a a d).A.natAbs
 have s2:=Q0e (q0a a d).D
 have hmax:IntKind.i64.max=9223372036854775807:=by decide
 have z1:(ByteArray.mk #[45]).size=1:=rfl
 have z2:(ByteArray.mk #[47]).size=1:=rfl
 refine X0m x s V _ ((X05 hx (l07.zero V) hs (S0l hd) (e0k (by omega)) (by rw[show Int.natAbs 0=0 from rfl,N0c]; omega) (e0k (by omega))).mono λv V1 l1 ⟨r,hv,hr⟩=>⟨r,hv,?_⟩)
 have hu:=hr.under
 have hn:=hr.re.1
 have hD:=(q0a a d).D_pos
 refine(p0a hr.re.2 (by omega)).mono λv V2 l2 hv=>⟨_,hv,λhneg=>⟨by rw[z1,hmax]; omega,λhul => ?_,λhul => ?_⟩,λhneg=>⟨λhul => ?_,λhul => ?_⟩⟩
 . simp only[gt_iff_lt,decide_eq_true_eq]at hul
   have h1:(q0a a d).D≠1:=λe=>by rw[e,if_pos rfl]at hu; have:=hu.len_zero.2 rfl; omega
   rw[if_neg h1]at hu
   refine(p0a (hu.le l2) (by omega)).mono λv V3 l3 hv=>⟨_,hv,by rw[z2,hmax]; omega,by rw[Q09,Q09,z1,z2,hmax]; omega,?_⟩
   unfold ratT ratS
   rw[hneg]at hn
   have hn:(q0a a d).A<0:=of_decide_eq_true hn.symm
   simp only[hn,h1,if_true,if_false]; rfl
 . simp only[gt_iff_lt,decide_eq_false_iff_not]at hul
   have h1:(q0a a d).D=1:=by
    have:=hu.len_zero.1 (by omega)
    split at this<;>omega
   unfold ratT ratS
   rw[hneg]at hn
   have hn:(q0a a d).A<0:=of_decide_eq_true hn.symm
   simp only[hn,h1,if_true]; rfl
 . simp only[gt_iff_lt,decide_eq_true_eq]at hul
   have h1:(q0a a d).D≠1:=λe=>by rw[e,if_pos rfl]at hu; have:=hu.len_zero.2 rfl; omega
   rw[if_neg h1]at hu
   refine(p0a (hu.le l2) (by omega)).mono λv V3 l3 hv=>⟨_,hv,by rw[z2,hmax]; omega,by rw[Q09,z2,hmax]; omega,?_⟩
   unfold ratT ratS
   rw[hneg]at hn
   have hn:¬(q0a a d).A<0:=of_decide_eq_false hn.symm
   simp only[hn,h1,if_false]; rfl
 . simp only[gt_iff_lt,decide_eq_false_iff_not]at hul
   have h1:(q0a a d).D=1:=by
    have:=hu.len_zero.1 (by omega)
    split at this<;>omega
   unfold ratT ratS
   rw[hneg]at hn
   have hn:¬(q0a a d).A<0:=of_decide_eq_false hn.symm
   simp only[hn,h1,if_false,if_true]
theorem o0w(z:Cq):cqS z=if z.B=0 then ratT z.A z.D else if z.A=0 then ratT z.B z.D++strI else if z.B<0 then ratT z.A z.D++(ratT z.B z.D++strI)else ratT z.A z.D++(H0r++(ratT z.B z.D++strI)):=by
 unfold cqS
 rw[e0u,f0u]; rfl
theorem T0l{a:Int}{d:Nat}(h:d≠0):(ratT a d).size<=bl a.natAbs+bl d+4:=by
 have h1:=I0r (q0a a d).A (q0a a d).D
 obtain⟨b1,b2⟩:=o0o (a:=a) h
 unfold ratT; omega
theorem lenT(n:Nat):(((n:Int)==0)=true↔n=0):=by simp
theorem Y0e{V:View}{x:NumV}{z:Cq}(hx:l01 V x z)(hz:z.sz<=2^40):a00 Tryz.prog j0p #[x.val] V λv _=>v = .string (cqS z):=by
 have zA:=z.szA; have zB:=z.szB; have zD:=z.szD
 have hD:=z.D_pos
 have t1:=T0l (a:=z.A) hD
 have t2:=T0l (a:=z.B) hD
 have hmax:IntKind.i64.max=9223372036854775807:=by decide
 have z1:(ByteArray.mk #[105]).size=1:=rfl
 have z2:(ByteArray.mk #[43]).size=1:=rfl
 rw[o0w]
 refine Y0m x V _ ((y06 hx).mono λv V1 l1 hv=>⟨_,hv,λhr => ?_,λhr => ?_⟩)
 . have hB:z.B=0:=by
     rw[Cq.B_zero]; simpa using hr
   refine(H02 (hx.le l1)).mono λv V2 l2 ⟨r,hv,h2⟩=>⟨r,hv,?_⟩
   refine(i0c (hx.re.le (View.le_trans l1 l2)) h2 hD (by omega) (by omega)).mono λv V3 l3 hv=>⟨_,hv,?_⟩
   rw[if_pos hB]
 . have hB:¬z.B=0:=by
     rw[Cq.B_zero]; simpa using hr
   rw[if_neg hB]
   refine(H02 (hx.le l1)).mono λv V2 l2 ⟨r,hv,h2⟩=>⟨r,hv,?_⟩
   refine(i0c (hx.im.le (View.le_trans l1 l2)) h2 hD (by omega) (by omega)).mono λv V3 l3 hv=>⟨_,hv,by rw[z1,hmax]; omega,λhA => ?_,λhA=>⟨λhn=>⟨by rw[Q09,z1,z2,hmax]; omega,?_⟩,λhn => ?_⟩⟩
   . have hA:z.A=0:=by
       have:=(lenT _).1 hA
       have:=hx.re.2.len_zero.1 this; omega
     rw[if_pos hA]; rfl
   all_goals
    have hA:¬z.A=0:=by
     intro e
     have:=hx.re.2.len_zero.2 (by omega)
     rw[this]at hA; simp at hA
    rw[if_neg hA]
    have hneg:=hx.im.1
    refine(H02 (hx.le (View.le_trans l1 (View.le_trans l2 l3)))).mono λv V4 l4 ⟨r4,hv,h4⟩=>⟨r4,hv,?_⟩
    refine(i0c (hx.re.le (View.le_trans l1 (View.le_trans l2 (View.le_trans l3 l4)))) h4 hD (by omega) (by omega)).mono λv V5 l5 hv=>⟨_,hv,by simp only[Q09,z1,z2]; rw[hmax]; omega,?_⟩
   . have hn:¬z.B<0:=by
       have:x.im.neg=false:=by simpa using hn
       rw[this]at hneg; exact of_decide_eq_false hneg.symm
     rw[if_neg hn]; rfl
   . have hn:z.B<0:=by
       have:x.im.neg=true:=by simpa using hn
       rw[this]at hneg; exact of_decide_eq_true hneg.symm
     rw[if_pos hn]; rfl
def all4:List Cq:=[⟨1,0⟩,⟨0,-1⟩,⟨-1,0⟩,⟨0,1⟩]
def q0o(n:Nat):List Cq:=(List.range n).map λj=>nth all4 (4 / n*j)
theorem q0w:(⟨((1:Int):Rat),0⟩:Cq)=⟨1,0⟩:=Cq.ext' (by simp) rfl
theorem s0w:(⟨((0:Int):Rat) / ((1:Int):Rat),((-1:Int):Rat) / ((1:Int):Rat)⟩:Cq)=⟨0,-1⟩:=Cq.ext' (by simp only[]; grind) (by simp only[]; grind)
theorem t0w:(⟨((-1:Int):Rat),0⟩:Cq)=⟨-1,0⟩:=Cq.ext' (by simp only[]; grind) rfl
theorem u0w : -(⟨0,-1⟩:Cq)=⟨0,1⟩:=Cq.ext' (by rw[c09]; grind) (by rw[d09]; grind)
theorem w09{V:View}{n:Nat}(hn:n=1\/n=2\/n=4) :
 a00 Tryz.prog x0f #[.int .i64 (n:Int)] V λv V'=>∃r:Sl,v = .tuple #[r.v,.int .i64 0]/\l02 V' r (q0o n):=by
 have hd:(4 / n)*n=4:=by rcases hn with rfl|rfl|rfl<;>rfl
 have hpos:1<=4 / n:=by rcases hn with rfl|rfl|rfl<;>decide
 have hn4:n<=4:=by omega
 have hn0:n≠0:=by omega
 have hdi:Int.tdiv 4 (n:Int)=((4 / n:Nat):Int):=by rcases hn with rfl|rfl|rfl<;>rfl
 have hw:IntKind.i64.wrap (Int.tdiv 4 (n:Int))=((4 / n:Nat):Int):=by
  rw[hdi]
  refine i64w (by omega) ?_
  have:4 / n<=4:=Nat.div_le_self _ _
  omega
 have hq:4 / n<=4:=Nat.div_le_self _ _
 refine F0e (n:Int) V _ (λc x V'=>∃l,l02 V' c.t6 all4/\x.t8=(4 / n*x.t7l:Nat)/\x.t7l<=n/\C03 5 x.t7l x.t7c x.o7 l/\u05 V' l ((List.range x.t7l).map λj=>nth all4 (4 / n*j)))
  (λ_ x _=>n-x.t7l) ((d07 (Int.natCast_nonneg _)).mono λv V1 l1 hv=>⟨_,hv,λh => ?_,λh=>⟨λh => ?_,λ_ => ?_⟩⟩)
 . exfalso
   rw[Int.toNat_natCast]at h
   rcases hn with rfl|rfl|rfl<;>exact absurd h (by decide)
 . exfalso; simp at h; omega
 refine(Y08 (by omega) (by omega) (by omega) (by omega) (by omega) (by omega) (by omega)).mono λv V2 l2 ⟨r2,hv,h2⟩=>⟨r2,0,hv,?_⟩
 refine(Y05 (by omega) (by omega)).mono λv V3 l3 ⟨r4,hv,h4⟩=>⟨r4,hv,?_⟩
 refine(Y05 (by omega) (by omega)).mono λv V4 l4 ⟨r5,hv,h5⟩=>⟨r5,hv,?_⟩
 rw[s0w]at h2
 rw[q0w]at h4
 rw[t0w]at h5
 refine(l0g (h2.le (View.le_trans l3 l4))).mono λv V5 l5 ⟨r6,hv,h6⟩=>⟨r6,hv,?_⟩
 rw[u0w]at h6
 intro b V6 l6 hf hb
 have hall:l02 V6 (Sl.mk (some (Addr.mk b 0 none)) 4 4) all4 :=
  d06 (o:=[.bool r4.re.neg,r4.re.mag.v,.bool r4.im.neg,r4.im.mag.v,r4.under.v]++([.bool r2.re.neg,r2.re.mag.v,.bool r2.im.neg,r2.im.mag.v,r2.under.v]++([.bool r5.re.neg,r5.re.mag.v,.bool r5.im.neg,r5.im.mag.v,r5.under.v]++([.bool r6.re.neg,r6.re.mag.v,.bool r6.im.neg,r6.im.mag.v,r6.under.v]++[]))))
   (by simpa using hb)
   ⟨_,_,rfl,rfl,⟨r4,rfl,h4.le (View.le_trans l4 (View.le_trans l5 l6))⟩,_,_,rfl,rfl,⟨r2,rfl,h2.le (View.le_trans l3 (View.le_trans l4 (View.le_trans l5 l6)))⟩,_,_,rfl,rfl,⟨r5,rfl,h5.le (View.le_trans l5 l6)⟩,_,_,rfl,rfl,⟨r6,rfl,h6.le l6⟩,rfl⟩ rfl
 refine⟨⟨[],hall,by simp,by simp,C03.nil,rfl⟩,?_⟩
 rintro⟨k,c,t,o⟩ V7 l7 ⟨l,hA,ht,hk,hlo,hin⟩
 simp only at hA ht hk hlo hin ⊢
 refine⟨λhlt => ?_,λhge => ?_⟩
 . simp only[decide_eq_true_eq]at hlt
   have hkn:k<n:=by
    rcases Nat.lt_or_ge k n with h|h
    . exact h
    . have:=Nat.mul_le_mul_left (4 / n) h
      omega
   obtain⟨hb',x,hx,hs,hnx⟩:=hA.get (t:=t) (by omega) (by simp[all4]; omega)
   refine⟨hb',x,hx,hs,λb2 V8 l8 hf8 hb8 => ?_⟩
   refine⟨l,_,hlo,E0b (l:=[.bool x.re.neg,x.re.mag.v,.bool x.im.neg,x.im.mag.v,x.under.v]) hb8,rfl,C0h x,Nat.le_trans (show k+1<=5 by omega) (show 5<=maxLen by decide),by omega,λc1 l3' hl3=>⟨by omega,⟨_,hA.le l8,?_,by omega,hl3,?_⟩,by omega⟩⟩
   . rw[hw,i64w (by omega) (by omega),ht,Nat.mul_add]; omega
   . rw[<-d0j]
     have e3:4 / n*k=t.toNat:=by omega
     rw[e3]
     exact(hin.le l8).push (hnx.le l8)
 . simp only[decide_eq_false_iff_not]at hge
   intro b3 V9 l9 hb9
   refine⟨_,rfl,?_⟩
   have hkn:k=n:=by
    rcases Nat.lt_or_ge k n with h|h
    . have:=Nat.mul_le_mul_left (4 / n) (show k+1<=n from h)
      rw[Nat.mul_add]at this
      omega
    . omega
   subst hkn
   refine z06 hlo hb9 (hin.le l9) ?_
   simp[q0o]
theorem l0e{V:View}{p w:Sl}{m:Nat}{zs ws:List Cq}(S T:Nat)(hm:m<=6)(hz:zs.length=2^m)(hw:ws.length=2^m)(hp:l02 V p zs)(hq:l02 V w ws)
 (hS:∀i,i<2^m->(nth zs i).sz<=S) (hT:∀i,i<2^m->(nth ws i).sz<=T) (hsz:2^m*(S+T+2)<=2^39) :
 a00 Tryz.prog b06 #[p.v,w.v] V λv V'=>∃r:Sl,v = .tuple #[r.v,.int .i64 0]/\l02 V' r (n02 m zs ws):=by
 have hpl:=hp.len
 have hwl:=hq.len
 have hl:lenB w.len=true:=by
  rw[hwl,hw]
  have key:∀m∈List.range 7,lenB (2^m)=true:=by decide
  exact key m (by simp; omega)
 refine z0a p w V _ ((n0a p w).mono λv V1 l1 hv=>⟨_,hv,λh => ?_,λh => ?_⟩)
 . rw[hl]at h; simp at h; omega
 . have ne:n02 m zs ws≠[]:=by
     intro e
     have:=N02 m zs ws
     rw[e]at this; simp at this
     have:0<2^m:=Nat.pow_pos (by omega)
     omega
   exact(P0f ne (a06 m S T hm hz hw (hp.le l1) (hq.le l1) hS hT hsz)).mono λv V2 l2 ⟨r,hv,hr⟩=>⟨r,hv,r,rfl,hr⟩
def rnth(rs:List RatV)(i:Nat):RatV:=rs.getD i ⟨0,0,0⟩
theorem G0h{V:View}{s:Sl}{zs:List Cq}(h:l02 V s zs)(hn:zs.length<=2^32) :
 a00 Tryz.prog y08 #[s.v] V λv V'=>∃r:Sl,v=r.v/\l02 V' r (f07 zs):=by
 have hl:=h.len
 refine t08 s V _ (λ_ x V'=>0<=x.t10/\x.t10<=s.len/\u05 V' x.o7 (Q0c s.len x.t10.toNat λi=>(nth zs i).conj)) (λ_ x _=>s.len-x.t10.toNat)
  ⟨⟨by omega,by omega,by omega,by omega⟩,⟨Int.le_refl 0,Int.natCast_nonneg _,?_⟩,?_⟩
 . rw[Int.toNat_natCast]
   show u05 V _ (Q0c s.len 0 _)
   rw[f0n]; exact u05.zeros _ _
 rintro⟨t,o⟩ V1 l1 ⟨h0,h1,ho⟩
 dsimp only at h0 h1 ho ⊢
 rw[Int.toNat_natCast]
 refine⟨λhlt => ?_,λhge => ?_⟩
 . simp only[decide_eq_true_eq]at hlt
   obtain⟨hb,x,hx,hs,hnx⟩:=(h.le l1).get h0 (by omega)
   refine⟨hb,x,hx,hs,(f0c hnx).mono λv V2 l2 ⟨r,hv,hr⟩=>⟨r,hv,⟨h0,hlt⟩,S01.room ho (by rw[O0e (by omega)]; omega),?_⟩⟩
   have e:IntKind.i64.wrap (t+1)=t+1:=i64w (by omega) (by omega)
   have e2:(t+1).toNat=t.toNat+1:=by omega
   rw[e]
   refine⟨⟨by omega,by omega,?_⟩,by omega⟩
   rw[e2,<-Q0p (by omega)]
   exact(ho.le l2).set (by rw[O0e (by omega)]; omega) hr
 . simp only[decide_eq_false_iff_not]at hge
   intro b V3 l3 hb
   have e:t.toNat=s.len:=by omega
   rw[e,P0p]at ho
   refine⟨_,rfl,d06 (zs:=f07 zs) hb ?_ (by simp[f07,hl])⟩
   unfold f07
   rw[<-hl]; exact ho.le l3
theorem f0v{V:View}{p q:Int}(p0 : -9223372036854775808<=p)(p1:p<=9223372036854775807)(q0 : -9223372036854775808<=q)(q1:q<=9223372036854775807)(hq:q≠0) :
 a00 Tryz.prog Q0b #[.int .i64 p,.int .i64 q] V λv V'=>∃r:NumV,v=r.val/\l01 V' r ⟨(p:Rat) / (q:Rat),((0:Int):Rat) / (q:Rat)⟩:=by
 refine w0b p q V _ ((Y08 p0 p1 (by omega) (by omega) q0 q1 hq).mono λv V1 l1 ⟨r,hv,hr⟩=>⟨r,0,hv,?_⟩)
 exact(g0c hr).mono λv V2 l2 ⟨r3,hv,h3⟩=>⟨r3,hv,r3,rfl,h3⟩
theorem p0n{V:View}{l:List Value}{zs:List Cq}{c:Nat}(h:u05 V l zs)(h1:1<=zs.length)(hn:zs.length<=64)(hS:∀i,i<zs.length->(nth zs i).sz<=2^39) :
 S0f Tryz.prog b0a (λb=>(Value.slice (some ⟨b,0,none⟩) zs.length c::[]:List Value)) M0i l V λl' V'=>u05 V' l' (x06 zs):=by
 refine E09 0 zs.length c l V _ (λ_ x V'=>0<=x.t10/\x.t10<=zs.length/\u05 V' x.o0 (E0f zs.length x.t10.toNat (λi=>nth zs i*P07 zs.length) (nth zs))) (λ_ x _=>zs.length-x.t10.toNat) ?_
 refine(f0v (p:=1) (q:=(zs.length:Int)) (by omega) (by omega) (by omega) (by omega) (by omega)).mono λv V1 l1 ⟨r1,hv,hr1⟩=>⟨r1,hv,⟨Int.le_refl 0,Int.natCast_nonneg _,?_⟩,?_⟩
 . show u05 V1 l (E0f zs.length 0 _ _)
   rw[T0p]; exact h.le l1
 rintro⟨t,o⟩ V2 l2 ⟨h0,ht,ho⟩
 dsimp only at h0 ht ho ⊢
 refine⟨λhlt => ?_,λhge => ?_⟩
 . simp only[decide_eq_true_eq]at hlt
   have hk:t.toNat<zs.length:=by omega
   obtain⟨x,hx,hnx⟩:=ho.cut (i:=t.toNat) (by rw[S0c]; exact hk)
   rw[y0r hk (Nat.le_refl _)]at hnx
   have hs:=X0n h1 hn
   refine⟨⟨h0,hlt⟩,x,hx,(e03 hnx (hr1.le l2) (by have:=hS _ hk; omega) (by show(P07 zs.length).sz<=_; omega)).mono λv V3 l3 ⟨r2,hv,hr2⟩=>⟨r2,hv,⟨h0,hlt⟩,S01.room ho (by rw[S0c]; exact hk),?_⟩⟩
   have e:IntKind.i64.wrap (t+1)=t+1:=i64w (by omega) (by omega)
   have e2:(t+1).toNat=t.toNat+1:=by omega
   rw[e]
   refine⟨⟨by omega,by omega,?_⟩,by omega⟩
   rw[e2,<-x0r hk]
   exact(ho.le l3).set (by rw[S0c]; exact hk) hr2
 . simp only[decide_eq_false_iff_not]at hge
   have e:t.toNat=zs.length:=by omega
   rw[e,w0r]at ho
   exact⟨⟨rfl,rfl,rfl⟩,ho⟩
theorem q0k:∀m∈List.range 7,lenB (2^m)=true:=by decide
theorem s0k{V:View}{p w:Sl}{m:Nat}{zs ws:List Cq}(S T:Nat)(hm:m<=6)(hz:zs.length=2^m)(hw:ws.length=2^m)(hp:l02 V p zs)(hq:l02 V w ws)
 (hS:∀i,i<2^m->(nth zs i).sz<=S) (hT:∀i,i<2^m->(nth ws i).sz<=T) (hsz:64*(S+T+2)<=2^39) :
 a00 Tryz.prog T04 #[p.v,w.v] V λv V'=>∃r:Sl,v = .tuple #[r.v,.int .i64 0]/\l02 V' r (x06 (n02 m zs (f07 ws))):=by
 have hl:lenB (2^m)=true:=q0k m (by simp; omega)
 have hb:=n0n hl
 have hpl:=hp.len
 have hwl:=hq.len
 refine M08 p w V _ ((n0a p w).mono λv V1 l1 hv=>⟨_,hv,λh => ?_,λ_ => ?_⟩)
 . exfalso
   rw[hwl,hw,hl,hpl,hz]at h; simp at h
 refine(G0h (hq.le l1) (by omega)).mono λv V2 l2 ⟨r2,hv,h2⟩=>⟨r2,hv,?_⟩
 have hcl:(f07 ws).length=2^m:=by rw[T0c,hw]
 have hT2:=g0k ws T (by rw[hw]; exact hT)
 rw[hw]at hT2
 have hfs:=W08 m zs (f07 ws) S T hz hcl hS hT2
 have hmul:2^m*(S+T+2)<=64*(S+T+2):=Nat.mul_le_mul_right _ hb.2
 refine(a06 m S T hm hz hcl (hp.le (View.le_trans l1 l2)) h2 hS hT2 (by omega)).mono λn c l rest V3 l3 ⟨hn,hc,hr,hin⟩=>⟨hr,?_⟩
 have hfl:=N02 m zs (f07 ws)
 have hlne:l≠[]:=by
  intro e; subst e
  have:=S01.length hin
  rw[hfl]at this
  simp at this; omega
 refine⟨⟨by omega,hlne⟩,?_⟩
 subst hn
 refine(p0n (c:=c) hin (by omega) (by omega) (by rw[hfl]; intro i hi; have:=hfs i hi; omega)).mono λl2' V4 l4 h4 => ?_
 intro b V5 l5 hb5
 refine⟨_,rfl,?_⟩
 rw[hc]
 exact d06 hb5 (h4.le l5) (by rw[P0d])
theorem H0h{m:Nat}(hm:m<=2):q0o (2^m)=w02 m:=by
 have:m=0\/m=1\/m=2:=by omega
 rcases this with rfl|rfl|rfl<;>simp[q0o,w02,all4,nth,List.range_succ,one1,one2,one4]
theorem s0o{m:Nat}(hm:m<=2):∀i,i<2^m->(nth (w02 m) i).sz<=4:=by
 have:m=0\/m=1\/m=2:=by omega
 rcases this with rfl|rfl|rfl<;>decide +kernel
def J0f(p:Int):Nat:=(Int.tmod p 3).toNat
theorem Z0e{p:Int}(h:0<=p):J0f p<=2:=by
 unfold J0f
 rw[Int.tmod_eq_emod_of_nonneg h]; omega
def B0g(zs ws:List Cq):List Cq:=n02 (Nat.log2 ws.length) zs ws
def C0g(zs ws:List Cq):List Cq:=x06 (n02 (Nat.log2 ws.length) zs (f07 ws))
theorem k08(m:Nat):Nat.log2 (2^m)=m:=by simp
def okSz(S:Nat)(zs:List Cq):Prop:=∀z∈zs,z.sz<=S
theorem okSz.at{S:Nat}{zs:List Cq}(h:okSz S zs)(h1:1<=S)(i:Nat):(nth zs i).sz<=S:=by
 rcases Nat.lt_or_ge i zs.length with g|g
 . exact h _ (List.mem_of_getElem? (f0k g))
 . have:nth zs i=Cq.zero:=by unfold nth; simp[List.getD,List.getElem?_eq_none g]
   rw[this]
   exact Nat.le_trans J07 h1
theorem okSz.of{S:Nat}{zs:List Cq}(h:∀i,i<zs.length->(nth zs i).sz<=S):okSz S zs:=λz hz=>by
 obtain⟨i,hi,e⟩:=List.getElem_of_mem hz
 have:=h i hi
 have e2:nth zs i=z:=by unfold nth; simp[List.getD,hi,e]
 rw[e2]at this; exact this
theorem o0g{zs ws:List Cq}{m:Nat}(hw:ws.length=2^m):(B0g zs ws).length=2^m:=by unfold B0g; rw[hw,k08,N02]
theorem p0g{zs ws:List Cq}{m:Nat}(hw:ws.length=2^m):(C0g zs ws).length=2^m:=by unfold C0g; rw[hw,k08,P0d,N02]
theorem H0t{zs ws:List Cq}{m S T:Nat}(hm:m<=6)(hz:zs.length=2^m)(hw:ws.length=2^m)(hS:okSz S zs)(hT:okSz T ws)(s1:1<=S)(t1:1<=T):okSz (64*(S+T+2)) (B0g zs ws):=by
 refine okSz.of λi hi => ?_
 rw[o0g hw]at hi
 unfold B0g; rw[hw,k08]
 have:=W08 m zs ws S T hz hw (λi _=>hS.at s1 i) (λi _=>hT.at t1 i) i hi
 have h2:2^m<=2^6:=Nat.pow_le_pow_right (by omega) hm
 have:=Nat.mul_le_mul_right (S+T+2) h2
 omega
theorem I0t{zs ws:List Cq}{m S T:Nat}(hm:m<=6)(hz:zs.length=2^m)(hw:ws.length=2^m)(hS:okSz S zs)(hT:okSz T ws)(s1:1<=S)(t1:1<=T):okSz (64*(S+T+2)+9) (C0g zs ws):=by
 refine okSz.of λi hi => ?_
 rw[p0g hw]at hi
 unfold C0g; rw[hw,k08]
 have hl:=N02 m zs (f07 ws)
 have h2:2^m<=2^6:=Nat.pow_le_pow_right (by omega) hm
 refine e0j _ _ (by rw[hl]; omega) (λi hi => ?_) i (by rw[hl]; exact hi)
 rw[hl]at hi
 have hc:=g0k ws T (λi _=>hT.at t1 i)
 rw[hw]at hc
 have:=W08 m zs (f07 ws) S T hz (by rw[T0c,hw]) (λi _=>hS.at s1 i) hc i hi
 have:=Nat.mul_le_mul_right (S+T+2) h2
 omega
def Z08(back:Bool)(zs ws:List Cq):List Cq:=if back=true then C0g zs ws else B0g zs ws
theorem a09{back:Bool}{zs ws:List Cq}{m:Nat}(hw:ws.length=2^m):(Z08 back zs ws).length=2^m:=by
 unfold Z08; split
 . exact p0g hw
 . exact o0g hw
theorem J0t{back:Bool}{zs ws:List Cq}{m S T:Nat}(hm:m<=6)(hz:zs.length=2^m)(hw:ws.length=2^m)(hS:okSz S zs)(hT:okSz T ws)(s1:1<=S)(t1:1<=T):okSz (64*(S+T+2)+9) (Z08 back zs ws):=by
 unfold Z08; split
 . exact I0t hm hz hw hS hT s1 t1
 . exact λz hz'=>Nat.le_trans (H0t hm hz hw hS hT s1 t1 z hz') (by omega)
theorem U0l{n:Nat}(h:lenB n=true):∃m,m<=6/\n=2^m:=by
 have hmem:n∈[1,2,4,8,16,32,64]:=by unfold lenB at h; exact List.contains_iff_mem.1 h
 simp only[List.mem_cons,List.not_mem_nil,or_false]at hmem
 rcases hmem with h|h|h|h|h|h|h
 . exact⟨0,by omega,h⟩
 . exact⟨1,by omega,h⟩
 . exact⟨2,by omega,h⟩
 . exact⟨3,by omega,h⟩
 . exact⟨4,by omega,h⟩
 . exact⟨5,by omega,h⟩
 . exact⟨6,by omega,h⟩
def e05(rows:List (List Cq))(ws vs:List Cq):Bool:=lenB ws.length&&(lenB vs.length&&(decide (S00 rows=ws.length)&&decide (rows.length=vs.length)))
def M0d(rows:List (List Cq))(ws vs:List Cq):Int:=if e05 rows ws vs=true then 0 else 4
def b09(back:Bool)(rows:List (List Cq))(ws vs:List Cq):List (List Cq) :=
 g0e Cq.zero ((g0e Cq.zero (rows.map λrow=>Z08 back row ws)).map λrow=>Z08 back row vs)
def o0i(back:Bool)(rows:List (List Cq))(ws vs:List Cq):List (List Cq):=if e05 rows ws vs=true then b09 back rows ws vs else []
def l08(S:Nat)(rows:List (List Cq)):Prop:=∀row∈rows,okSz S row
theorem t0k{S:Nat}{rows:List (List Cq)}(h:l08 S rows)(h1:1<=S):l08 S (g0e Cq.zero rows):=by
 intro row hr z hz
 unfold g0e matL at hr
 obtain⟨j,_,rfl⟩:=List.mem_map.1 hr
 unfold rowL at hz
 obtain⟨i,hi,rfl⟩:=List.mem_map.1 hz
 have hi:i<rows.length:=by simpa using hi
 exact(h _ (List.mem_of_getElem? (g08 hi []))).at h1 j
theorem K0t{rows:List (List Cq)}{f:List Cq->List Cq}{n:Nat}(h:∀row∈rows,(f row).length=n):Rect (rows.map f)/\(0<rows.length->S00 (rows.map f)=n):=by
 cases rows with
 | nil=>exact⟨λrow hr=>by simp at hr,λh=>by simp at h⟩
 | cons a l =>
   have e:S00 ((a::l).map f)=n:=by simpa [S00]using h a (by simp)
   refine⟨λrow hr => ?_,λ_=>e⟩
   rw[e]
   obtain⟨r,hr2,rfl⟩:=List.mem_map.1 hr
   exact h r hr2
structure Mid (rows:List (List Cq)) (n m:Nat):Prop where
 rect:Rect rows
 len:rows.length=2^n
 cols:S00 rows=2^m
theorem Mid.row{rows:List (List Cq)}{n m:Nat}(h:Mid rows n m):∀row∈rows,row.length=2^m:=λrow hr=>by rw[h.rect row hr,h.cols]
theorem Mid.map{rows:List (List Cq)}{n m:Nat}(h:Mid rows n m)(back:Bool){ws:List Cq}(hw:ws.length=2^m):Mid (rows.map λrow=>Z08 back row ws) n m:=by
 obtain⟨h1,h2⟩:=K0t (rows:=rows) (f:=λrow=>Z08 back row ws) (n:=2^m) λrow _=>a09 hw
 exact⟨h1,by rw[List.length_map,h.len],h2 (by rw[h.len]; exact Nat.pow_pos (by omega))⟩
theorem Mid.turn{rows:List (List Cq)}{n m:Nat}(h:Mid rows n m):Mid (g0e Cq.zero rows) m n :=
 ⟨X0p _ _,by rw[f0g,h.cols],by rw[Y0p _ (by rw[h.cols]; exact Nat.pow_pos (by omega)),h.len]⟩
theorem K0f{rows:List (List Cq)}{ws vs:List Cq}(h:e05 rows ws vs=true)(hr:Rect rows):∃n m,n<=6/\m<=6/\ws.length=2^m/\vs.length=2^n/\Mid rows n m:=by
 unfold e05 at h
 simp only[Bool.and_eq_true,decide_eq_true_eq]at h
 obtain⟨h1,h2,h3,h4⟩:=h
 obtain⟨m,hm,e1⟩:=U0l h1
 obtain⟨n,hn,e2⟩:=U0l h2
 exact⟨n,m,hn,hm,e1,e2,hr,by rw[h4,e2],by rw[h3,e1]⟩
theorem d0s{rows:List (List Cq)}{n m S T:Nat}(h:Mid rows n m)(hm:m<=6)(back:Bool){ws:List Cq}(hw:ws.length=2^m)(hS:l08 S rows)(hT:okSz T ws)(s1:1<=S)(t1:1<=T) :
 l08 (64*(S+T+2)+9) (rows.map λrow=>Z08 back row ws):=by
 intro row hr
 obtain⟨r,hr2,rfl⟩:=List.mem_map.1 hr
 exact J0t hm (h.row r hr2) hw (hS r hr2) hT s1 t1
theorem W0l{rows:List (List Cq)}{n m:Nat}(h:Mid rows n m)(back:Bool){ws vs:List Cq}(hw:ws.length=2^m)(hv:vs.length=2^n):Mid (b09 back rows ws vs) n m:=(((h.map back hw).turn).map back hv).turn
theorem t0o{rows:List (List Cq)}{n m S T:Nat}(h:Mid rows n m)(hn:n<=6)(hm:m<=6)(back:Bool){ws vs:List Cq}(hw:ws.length=2^m)(hv:vs.length=2^n)(hS:l08 S rows)(hT:okSz T ws)(hT2:okSz T vs)(s1:1<=S)(t1:1<=T) :
 l08 (64*(64*(S+T+2)+9+T+2)+9) (b09 back rows ws vs):=by
 have a1:=t0k (d0s h hm back hw hS hT s1 t1) (by omega)
 exact t0k (d0s ((h.map back hw).turn) hn back hv a1 hT2 (by omega) t1) (by omega)
theorem g0v{V:View}{p w:Sl}{m:Nat}{zs ws:List Cq}(S T:Nat)(hm:m<=6)(hz:zs.length=2^m)(hw:ws.length=2^m)(hp:l02 V p zs)(hq:l02 V w ws)(hS:okSz S zs)(hT:okSz T ws)(s1:1<=S)(t1:1<=T)
 (hsz:64*(S+T+2)<=2^39):a00 Tryz.prog b06 #[p.v,w.v] V λv V'=>∃r:Sl,v = .tuple #[r.v,.int .i64 0]/\l02 V' r (Z08 false zs ws):=by
 have h2:2^m<=2^6:=Nat.pow_le_pow_right (by omega) hm
 have h3:=Nat.mul_le_mul_right (S+T+2) h2
 refine(l0e S T hm hz hw hp hq (λi _=>hS.at s1 i) (λi _=>hT.at t1 i) (by omega)).mono λv V1 _ ⟨r,hv,hr⟩=>⟨r,hv,?_⟩
 unfold Z08 B0g; rw[hw,k08]; exact hr
theorem q0n{V:View}{p w:Sl}{m:Nat}{zs ws:List Cq}(S T:Nat)(hm:m<=6)(hz:zs.length=2^m)(hw:ws.length=2^m)(hp:l02 V p zs)(hq:l02 V w ws)(hS:okSz S zs)(hT:okSz T ws)(s1:1<=S)(t1:1<=T)
 (hsz:64*(S+T+2)<=2^39):a00 Tryz.prog T04 #[p.v,w.v] V λv V'=>∃r:Sl,v = .tuple #[r.v,.int .i64 0]/\l02 V' r (Z08 true zs ws):=by
 refine(s0k S T hm hz hw hp hq (λi _=>hS.at s1 i) (λi _=>hT.at t1 i) hsz).mono λv V1 _ ⟨r,hv,hr⟩=>⟨r,hv,?_⟩
 unfold Z08 C0g; rw[hw,k08]; exact hr
def tfn(back:Bool):FuncId:=if back=true then T04 else b06
theorem g0q{V:View}{s w:Sl}{pf pw:Option Addr}{m:Nat}{zs ws:List Cq}(back:Bool)(S T:Nat)(hf:V.load pf=some (.func (.func (tfn back)) #[] #[]))(hl:V.load pw=some w.v)(hm:m<=6)(hz:zs.length=2^m)(hw:ws.length=2^m)(hp:l02 V s zs)(hq:l02 V w ws)
 (hS:okSz S zs) (hT:okSz T ws) (s1:1<=S) (t1:1<=T) (hsz:64*(S+T+2)<=2^39) :
 a00 Tryz.prog U01 #[s.v,.pointer pf,.pointer pw] V λv V'=>∃r:Sl,v=r.v/\l02 V' r (Z08 back zs ws):=by
 cases back with
 | true=>exact m04 s pf pw V _ ⟨⟨⟩,hf,w,hl,(q0n S T hm hz hw hp hq hS hT s1 t1 hsz).mono λv V1 _ ⟨r,hv,hr⟩=>⟨r,0,hv,r,rfl,hr⟩⟩
 | false=>exact c05 s pf pw V _ ⟨⟨⟩,hf,w,hl,(g0v S T hm hz hw hp hq hS hT s1 t1 hsz).mono λv V1 _ ⟨r,hv,hr⟩=>⟨r,0,hv,r,rfl,hr⟩⟩
theorem a0f{V:View}{g:s00}{f:Fn2}{w:Sl}{m:Nat}{rows:List (List Cq)}{ws:List Cq}(back:Bool)(S T:Nat)(h:X00 5 numC V g.rows rows)(hn:rows.length<=2^20)(hf:V.load f.p0=some (.func (.func (tfn back)) #[] #[]))(hl:V.load f.p1=some w.v)
 (hm:m<=6) (hz:∀row∈rows,row.length=2^m) (hw:ws.length=2^m) (hq:l02 V w ws) (hS:∀row∈rows,okSz S row) (hT:okSz T ws) (s1:1<=S) (t1:1<=T) (hsz:64*(S+T+2)<=2^39) :
 a00 Tryz.prog B05 #[g.val,f.val U01] V λv V'=>∃r:s00,v=r.val/\X00 5 numC V' r.rows (rows.map λrow=>Z08 back row ws):=by
 have hgl:g.rows.len=rows.length:=h.len
 refine g0a g f V _
  (λ_ x V'=>∃(t:Nat) (l:List Value),x.t11=t/\t<=rows.length/\C03 1 x.o5_0l x.o5_0c x.o21 l/\x.o5_0l=t/\S01 1 (λV x row=>∃s:Sl,x=[s.v]/\y00 5 numC V s row) V' l ((rows.take t).map λrow=>Z08 back row ws))
  (λ_ x _=>rows.length-x.t11.toNat) ⟨⟨0,[],rfl,by omega,C03.nil,rfl,rfl⟩,?_⟩
 rintro⟨t11,o4,k,c,o⟩ V1 l1 ⟨t,l,et,ht,hL,ek,hC⟩
 dsimp only at et hL ek hC ⊢
 subst et; subst ek
 rw[hgl]
 refine⟨λhlt => ?_,λhge => ?_⟩
 . have hk:k<rows.length:=by simp at hlt; omega
   have ek:=g08 hk []
   have hmem:=List.mem_of_getElem? ek
   obtain⟨g1,s,h1,h2⟩:=(X00.le numC.le l1 h).row (t:=(k:Int)) (by omega) (row:=rows.getD k []) (by rw[Int.toNat_natCast]; exact ek)
   rw[hgl]at g1
   have tk:(rows.take (k+1)).map (λrow=>Z08 back row ws)=(rows.take k).map (λrow=>Z08 back row ws)++[Z08 back (rows.getD k []) ws]:=by rw[List.take_add_one,ek]; simp
   generalize rows.getD k []=row at *
   refine⟨g1,s,h1,(g0q back S T (y03 l1 hf) (y03 l1 hl) hm (hz _ hmem) hw h2 (hq.le l1) (hS _ hmem) hT s1 t1 hsz).mono λv V2 l2 ⟨r1,hv,hr⟩=>⟨r1,hv,λb1 V3 l3 _ hb1 => ?_⟩⟩
   have hnew:V3.has (some (Addr.mk b1 0 none)) [r1.v]:=P04 (cs:=[r1.v]) (j:=0) hb1 (λi v hv=>by rw[Nat.zero_add]; exact hv) rfl
   refine⟨l,_,hL,hnew,rfl,by intro v hv; simp at hv; subst hv; rfl,by unfold maxLen; omega,by omega,λc1 l3' hl3 => ?_⟩
   rw[i64w (by omega) (by omega)]
   have L23:=View.le_trans l2 l3
   refine⟨⟨k+1,_,by omega,by omega,hl3,rfl,?_⟩,by omega⟩
   rw[tk]
   exact(hC.imp λ_ _ ⟨s,e,hs⟩=>⟨s,e,y00.le (numC.le L23) L23 hs⟩).append (S01.one rfl ⟨_,rfl,l02.le l3 hr⟩)
 . have e:k=rows.length:=by simp at hge; omega
   subst e
   rw[List.take_length]at hC
   intro b2 V4 l4 hb2
   exact⟨_,rfl,z06 hL hb2 (hC.imp λ_ _ ⟨s,e,hs⟩=>⟨s,e,y00.le (numC.le l4) l4 hs⟩) (by rw[List.length_map])⟩
theorem m0j{V:View}{w:Sl}{pf:Option Addr}{ws:List Cq}(hq:l02 V w ws) :
 a00 Tryz.prog p05 #[w.v,.pointer pf] V λv V'=>∃r:Fn2,v=r.val U01/\r.p0=pf/\V'.load r.p1=some w.v:=by
 refine B09 w pf V _ λb1 V1 l1 hb1=>⟨_,rfl,rfl,?_⟩
 have:=G07 (j:=0) hb1
 simpa [Addr.add]using this
theorem X0l{V:View}{g:s00}{w v:Sl}{rows:List (List Cq)}{ws vs:List Cq}(back:Bool)(S T:Nat)(h:X00 5 numC V g.rows rows)(hr:Rect rows)(hq:l02 V w ws)(hv:l02 V v vs)
 (hS:l08 S rows) (hT:okSz T ws) (hT2:okSz T vs) (s1:1<=S) (t1:1<=T) (hsz:64*(64*(S+T+2)+9+T+2)<=2^39) :
 a00 Tryz.prog T0a #[g.val,w.v,v.v,.func (.func (tfn back)) #[] #[]] V λu V'=>∃r:s00,u = .tuple #[r.val,.int .i64 (M0d rows ws vs)]/\X00 5 numC V' r.rows (o0i back rows ws vs):=by
 have hwl:=hq.len
 have hvl:=hv.len
 have bad:∀V':View,e05 rows ws vs=false->∃r:s00,Value.tuple #[(s00.mk (Sl.mk none 0 0)).val,.int .i64 4] = .tuple #[r.val,.int .i64 (M0d rows ws vs)]/\X00 5 numC V' r.rows (o0i back rows ws vs):=λV' e=>by
  refine⟨⟨⟨none,0,0⟩⟩,?_,?_⟩
  . unfold M0d; rw[e]; rfl
  . unfold o0i; rw[e]; exact y00.nil
 have tail:e05 rows ws vs=true->∀(V3:View),V.le V3->∀(b1:Nat) (V4:View),V3.le V4->V4 b1=some (List.toArray ([.func (.func (tfn back)) #[] #[]])) ->
  a00 Tryz.prog p05 #[w.v,.pointer (some (Addr.mk b1 0 none))] V4 λu V5=>∃r5:Fn2,u=r5.val U01 /\
  a00 Tryz.prog B05 #[g.val,r5.val U01] V5 λu V6=>∃r6:s00,u=r6.val /\
  a00 Tryz.prog D03 #[r6.val] V6 λu V7=>∃r7:s00,u=r7.val /\
  a00 Tryz.prog p05 #[v.v,.pointer (some (Addr.mk b1 0 none))] V7 λu V8=>∃r8:Fn2,u=r8.val U01 /\
  a00 Tryz.prog B05 #[r7.val,r8.val U01] V8 λu V9=>∃r9:s00,u=r9.val /\
  a00 Tryz.prog D03 #[r9.val] V9 λu V10=>∃r10:s00,u=r10.val /\
  ∃r:s00,Value.tuple #[r10.val,.int .i64 0] = .tuple #[r.val,.int .i64 (M0d rows ws vs)]/\X00 5 numC V10 r.rows (o0i back rows ws vs):=λok V3 l3 b1 V4 l4 hb1=>by
  obtain⟨n,m,hn,hm,ew,ev,M⟩:=K0f ok hr
  have L4:=View.le_trans l3 l4
  have p6:2^n<=2^6:=Nat.pow_le_pow_right (by omega) hn
  have q6:2^m<=2^6:=Nat.pow_le_pow_right (by omega) hm
  have hf:V4.load (some (Addr.mk b1 0 none))=some (.func (.func (tfn back)) #[] #[]):=by
   have:=G07 (j:=0) hb1
   simpa [Addr.add]using this
  refine(m0j (hq.le L4)).mono λu V5 l5 ⟨r5,hu,e1,e2⟩=>⟨r5,hu,?_⟩
  have L5:=View.le_trans L4 l5
  refine(a0f (w:=w) back S T (X00.le numC.le L5 h) (by rw[M.len]; omega) (by rw[e1]; exact y03 l5 hf) e2 hm M.row ew (hq.le L5) hS hT s1 t1 (by omega)).mono λu V6 l6 ⟨r6,hu,h6⟩=>⟨r6,hu,?_⟩
  have M1:=M.map back ew
  have z1:=d0s M hm back ew hS hT s1 t1
  refine(o0a h6 M1.rect (by rw[M1.len]; omega) (by rw[M1.cols]; omega) Cq.zero).mono λu V7 l7 ⟨r7,hu,h7⟩=>⟨r7,hu,?_⟩
  have M2:=M1.turn
  have z2:=t0k z1 (by omega)
  have L7:=View.le_trans L5 (View.le_trans l6 l7)
  refine(m0j (hv.le L7)).mono λu V8 l8 ⟨r8,hu,e3,e4⟩=>⟨r8,hu,?_⟩
  have L8:=View.le_trans L7 l8
  refine(a0f (w:=v) back _ T (X00.le numC.le l8 h7) (by rw[M2.len]; omega) (by rw[e3]; exact y03 (View.le_trans l5 (View.le_trans l6 (View.le_trans l7 l8))) hf) e4 hn M2.row ev (hv.le L8) z2 hT2 (by omega) t1 (by omega)).mono λu V9 l9 ⟨r9,hu,h9⟩=>⟨r9,hu,?_⟩
  have M3:=M2.map back ev
  refine(o0a h9 M3.rect (by rw[M3.len]; omega) (by rw[M3.cols]; omega) Cq.zero).mono λu V10 l10 ⟨r10,hu,h10⟩=>⟨r10,hu,r10,?_,?_⟩
  . unfold M0d; rw[ok]; rfl
  . unfold o0i; rw[if_pos ok]; exact h10
 have len:∀ {V':View} (n:Nat),a00 Tryz.prog G0a #[.int .i64 (n:Int)] V' λu _=>u = .bool (lenB n):=λ{V'} n=>(d07 (by omega)).mono λu _ _ hu=>by rw[hu,Int.toNat_natCast]
 have b1:lenB ws.length=false->e05 rows ws vs=false:=λe=>by unfold e05; rw[e]; rfl
 have b2:lenB vs.length=false->e05 rows ws vs=false:=λe=>by unfold e05; rw[e]; simp
 have b3:S00 rows≠ws.length->e05 rows ws vs=false:=λe=>by unfold e05; simp[e]
 have b4:rows.length≠vs.length->e05 rows ws vs=false:=λe=>by unfold e05; simp[e]
 cases back with
 | false =>
   refine t05 g w v ⟨⟩ V _ ((u02 h).mono λu V1 l1 hu=>⟨_,_,hu,?_⟩)
   rw[hwl,hvl]
   refine(len _).mono λu V2 l2 hu=>⟨_,hu,λc=>bad V2 (b1 (by simpa using c)),λc=>(len _).mono λu V3 l3 hu=>⟨_,hu,λc2=>bad V3 (b2 (by simpa using c2)),λc2=>⟨λc3=>bad V3 (b3 λe => ?_),λc3=>⟨λc4=>bad V3 (b4 λe => ?_),λc4 => ?_⟩⟩⟩⟩
   . rw[e]at c3; simp at c3
   . rw[e]at c4; simp at c4
   . refine tail ?_ V3 (View.le_trans l1 (View.le_trans l2 l3))
     unfold e05
     simp at c c2 c3 c4
     have c3:S00 rows=ws.length:=by omega
     have c4:rows.length=vs.length:=by omega
     rw[c,c2,decide_eq_true c3,decide_eq_true c4]; rfl
 | true =>
   refine d05 g w v ⟨⟩ V _ ((u02 h).mono λu V1 l1 hu=>⟨_,_,hu,?_⟩)
   rw[hwl,hvl]
   refine(len _).mono λu V2 l2 hu=>⟨_,hu,λc=>bad V2 (b1 (by simpa using c)),λc=>(len _).mono λu V3 l3 hu=>⟨_,hu,λc2=>bad V3 (b2 (by simpa using c2)),λc2=>⟨λc3=>bad V3 (b3 λe => ?_),λc3=>⟨λc4=>bad V3 (b4 λe => ?_),λc4 => ?_⟩⟩⟩⟩
   . rw[e]at c3; simp at c3
   . rw[e]at c4; simp at c4
   . refine tail ?_ V3 (View.le_trans l1 (View.le_trans l2 l3))
     unfold e05
     simp at c c2 c3 c4
     have c3:S00 rows=ws.length:=by omega
     have c4:rows.length=vs.length:=by omega
     rw[c,c2,decide_eq_true c3,decide_eq_true c4]; rfl
theorem o0c{V:View}{g:s00}{w v:Sl}{rows:List (List Cq)}{ws vs:List Cq}(S T:Nat)(h:X00 5 numC V g.rows rows)(hr:Rect rows)(hq:l02 V w ws)(hv:l02 V v vs)
 (hS:l08 S rows) (hT:okSz T ws) (hT2:okSz T vs) (s1:1<=S) (t1:1<=T) (hsz:64*(64*(S+T+2)+9+T+2)<=2^39) :
 a00 Tryz.prog p08 #[g.val,w.v,v.v] V λu V'=>∃r:s00,u = .tuple #[r.val,.int .i64 (M0d rows ws vs)]/\X00 5 numC V' r.rows (o0i false rows ws vs) :=
 a08 g w v V _ ((X0l false S T h hr hq hv hS hT hT2 s1 t1 hsz).mono λu V1 _ ⟨r,hu,h1⟩=>⟨r,_,hu,r,rfl,h1⟩)
theorem u0k{V:View}{g:s00}{w v:Sl}{rows:List (List Cq)}{ws vs:List Cq}(S T:Nat)(h:X00 5 numC V g.rows rows)(hr:Rect rows)(hq:l02 V w ws)(hv:l02 V v vs)
 (hS:l08 S rows) (hT:okSz T ws) (hT2:okSz T vs) (s1:1<=S) (t1:1<=T) (hsz:64*(64*(S+T+2)+9+T+2)<=2^39) :
 a00 Tryz.prog k09 #[g.val,w.v,v.v] V λu V'=>∃r:s00,u = .tuple #[r.val,.int .i64 (M0d rows ws vs)]/\X00 5 numC V' r.rows (o0i true rows ws vs) :=
 K08 g w v V _ ((X0l true S T h hr hq hv hS hT hT2 s1 t1 hsz).mono λu V1 _ ⟨r,hu,h1⟩=>⟨r,_,hu,r,rfl,h1⟩)
theorem e0s{V:View}{p:Option Addr}{v:Value}(h:V.has p [v]):V.load p=some v:=by
 have:=h 0 v rfl
 cases p with
 | none=>exact this
 | some a=>simpa [Addr.add]using this
theorem y0q{P:Program}{f:FuncId}{args:Array Value}{m V:View}{K:Value->View->View->Prop}(h:m.apart V->O02 P f args m V K):O02 P f args m V K :=
 λw hw hm=>h hm.apart w hw hm
theorem Y0l{V:View}{g:s00}{rows:List (List Bool)}{i j:Nat}(h:X00 1 Go.Vc.boolC V g.rows rows)(hr:Rect rows)(hi:i<rows.length)(hj:j<S00 rows) :
 a00 Tryz.prog a0a #[g.val,.int .i64 (i:Int),.int .i64 (j:Int)] V λv _=>v = .tuple #[.bool ((rows.getD i []).getD j false),.int .i64 0]:=by
 refine m09 g i j V _ ((S0d h).mono λv V1 l1 hv=>⟨_,_,hv,λc => ?_,λ_=>⟨λc2 => ?_,λ_=>⟨λc3 => ?_,λ_=>⟨λc4 => ?_,λ_ => ?_⟩⟩⟩⟩)
 . have:=of_decide_eq_true c; omega
 . have:=of_decide_eq_true c2; omega
 . have:=of_decide_eq_true c3; omega
 . have:=of_decide_eq_true c4; omega
 . have ek:rows[i]?=some (rows.getD i []):=g08 hi []
   obtain⟨g1,s,h1,h2⟩:=(X00.le Go.Vc.boolC.le l1 h).row (t:=(i:Int)) (by omega) (by rw[Int.toNat_natCast]; exact ek)
   have hrl:=P0e hr ek
   obtain⟨g2,x,hx,_,hh,_⟩:=y00.get h2 (t:=(j:Int)) (by omega) (z:=(rows.getD i []).getD j false) (by rw[Int.toNat_natCast]; exact g08 (by omega) false)
   exact⟨g1,s,h1,g2,_,e0s (by rw[show x=_ from hx]at hh; exact hh),rfl⟩
theorem Z0l{V:View}{g:s00}{rows:List (List Bool)}{i j:Nat}(h:X00 1 Go.Vc.boolC V g.rows rows)(hr:Rect rows)(hi:i<rows.length)(hj:j<S00 rows) :
 a00 Tryz.prog y0f #[g.val,.int .i64 (i:Int),.int .i64 (j:Int)] V λv _=>v = .bool (atG false rows i j) :=
 H0e g i j V _ ((Y0l h hr hi hj).mono λv _ _ hv=>⟨_,_,hv,rfl⟩)
theorem L0t{a b:NumV}(h:a.val.cells.toList=b.val.cells.toList):a=b:=by
 obtain⟨⟨n1,⟨a1,l1,c1⟩⟩,⟨n2,⟨a2,l2,c2⟩⟩,⟨a3,l3,c3⟩⟩:=a
 obtain⟨⟨m1,⟨b1,k1,d1⟩⟩,⟨m2,⟨b2,k2,d2⟩⟩,⟨b3,k3,d3⟩⟩:=b
 rw[s0h,s0h]at h
 simp[Sl.v]at h
 obtain⟨rfl,⟨rfl,rfl,rfl⟩,rfl,⟨rfl,rfl,rfl⟩,rfl,rfl,rfl⟩:=h
 rfl
theorem w0k{V:View}{g:s00}{rows:List (List Cq)}{i j:Nat}(h:X00 5 numC V g.rows rows)(hr:Rect rows)(hi:i<rows.length)(hj:j<S00 rows) :
 a00 Tryz.prog J0d #[g.val,.int .i64 (i:Int),.int .i64 (j:Int)] V λv V'=>∃r:NumV,v=r.val/\l01 V' r (atG Cq.zero rows i j):=by
 refine I0c g i j V _ ((F0h (i:=(i:Int)) (j:=(j:Int)) h hr Cq.zero).mono λv V1 _ ⟨r,e,hv,h1,_⟩=>⟨r,e,hv,r,rfl,?_⟩)
 obtain⟨_,y,e1,e2⟩:=h1 ⟨⟨by omega,by omega⟩,by omega,by omega⟩
 rw[Int.toNat_natCast,Int.toNat_natCast]at e2
 rw[L0t e1]; exact e2
theorem M0t{V:View}{g k:s00}{rows wts:List (List Cq)}(h:X00 5 numC V g.rows rows)(hk:X00 5 numC V k.rows wts) :
 a00 Tryz.prog j09 #[g.val,k.val] V λv _=>v = .bool (decide (rows.length=wts.length/\S00 rows=S00 wts)):=by
 refine N08 g k V _ ((u02 h).mono λv V1 l1 hv=>⟨_,_,hv,(u02 (X00.le numC.le l1 hk)).mono λv V2 _ hv=>⟨_,_,hv,λc => ?_,λc => ?_⟩⟩)
 . have c:rows.length=wts.length:=by have:(rows.length:Int)=wts.length:=(by simpa using c); omega
   congr 1
   by_cases d:S00 rows=S00 wts
   . rw[decide_eq_true ⟨c,d⟩,d]; simp
   . rw[decide_eq_false (λx=>d x.2)]; simp; omega
 . have c:¬rows.length=wts.length:=λe=>by rw[e]at c; simp at c
   rw[decide_eq_false (λx=>c x.1)]
theorem u0o{V:View}{g k:s00}{rows:List (List Cq)}{wts:List (List Bool)}(h:X00 5 numC V g.rows rows)(hk:X00 1 Go.Vc.boolC V k.rows wts) :
 a00 Tryz.prog u0a #[g.val,k.val] V λv _=>v = .bool (decide (rows.length=wts.length/\S00 rows=S00 wts)):=by
 refine i0a g k V _ ((u02 h).mono λv V1 l1 hv=>⟨_,_,hv,(S0d (X00.le Go.Vc.boolC.le l1 hk)).mono λv V2 _ hv=>⟨_,_,hv,λc => ?_,λc => ?_⟩⟩)
 . have c:rows.length=wts.length:=by have:(rows.length:Int)=wts.length:=(by simpa using c); omega
   congr 1
   by_cases d:S00 rows=S00 wts
   . rw[decide_eq_true ⟨c,d⟩,d]; simp
   . rw[decide_eq_false (λx=>d x.2)]; simp; omega
 . have c:¬rows.length=wts.length:=λe=>by rw[e]at c; simp at c
   rw[decide_eq_false (λx=>c x.1)]
theorem f0d{α:Type}{n m:Nat}(A:Nat->Nat->α)(n1:1<=n)(n2:n<=64)(m1:1<=m)(m2:m<=64):u0h (matL n m A)=matL n m A:=by
 have hc:S00 (matL n m A)=m:=by
  obtain⟨row,e,hl⟩:=e0c (rows:=matL n m A) (by rw[w00]; omega)
  rw[Q04 (by omega)]at e
  obtain rfl:=Option.some.inj e
  rw[<-hl,k00]
 unfold u0h
 rw[if_pos]
 unfold a07
 rw[w00,decide_eq_true n1,decide_eq_true n2,Bool.true_and,Bool.true_and,List.all_eq_true]
 intro row hr
 unfold matL at hr
 obtain⟨i,_,rfl⟩:=List.mem_map.1 hr
 unfold s09
 rw[hc,k00,decide_eq_true m1,decide_eq_true m2,decide_eq_true rfl]; rfl
theorem x0k{V m:View}{b0:Nat}{f:Fn5}{R C:Nat}(A:Nat->Nat->Cq)(bd:Nat->Nat->Int)(r1:1<=R)(r2:R<=64)(c1:1<=C)(c2:C<=64)(h0:m b0=some #[.int .i64 (bd 0 0)])(hb:∀i,bd i C=bd (i+1) 0)
 (hcl:∀(i k:Nat) (m' V':View),i<R->k<C->V.le V'->m' b0=some #[.int .i64 (bd i k)] ->
   O02 Tryz.prog P06 #[.int .i64 (i:Int),.int .i64 (k:Int),.pointer f.p0,.pointer f.p1,.pointer f.p2,.pointer f.p3,.pointer f.p4] m' V' λv m2 V2=>∃r:NumV,v=r.val/\l01 V2 r (A i k)/\m2 b0=some #[.int .i64 (bd i (k+1))]/\∀b,b≠b0->m2 b=m' b) :
 O02 Tryz.prog K0d #[.int .i64 (R:Int),.int .i64 (C:Int),f.val P06] m V λv m' V'=>∃g:s00,v=g.val/\X00 5 numC (p07 m' V') g.rows (matL R C A)/\m'.apart V'/\m' b0=some #[.int .i64 (bd R 0)]:=by
 refine E06 m R C f V _
  (λ_ x V'=>∃t:Nat,x.t16=t/\t<=R/\x.o13.length=R/\E03 5 numC (x.o0.del b0) V' x.o13 R (λi=>if i<t then rowL C (A i)else [])/\x.o0 b0=some #[.int .i64 (bd t 0)]) (λ_ x _=>R-x.t16.toNat)
  (λc x V'=>∃t k:Nat,c.t16=t/\c.t8=t/\t<R/\x.t20=k/\k<=C/\x.o13.length=R/\E03 5 numC (x.o0.del b0) V' x.o13 R (λi=>if i<t then rowL C (A i)else if i=t then rowL k (A t)else [])/\x.o0 b0=some #[.int .i64 (bd t k)]) (λ_ x _=>C-x.t20.toNat) ?_
 rw[Int.toNat_natCast]
 refine⟨⟨by omega,by omega,by omega,by omega⟩,⟨0,rfl,by omega,by simp,?_,h0⟩,?_⟩
 . rw[W0p]; exact(G0n (m.del b0) V R).congr λi _=>by rw[if_neg (by omega)]
 rintro⟨t16,o0,o6,o13⟩ V1 l1 ⟨t,et,ht,hol,hR,hb0⟩
 dsimp only at et hol hR hb0 ⊢
 subst et
 refine⟨λhlt=>⟨⟨t,0,rfl,rfl,by have:=of_decide_eq_true hlt; omega,rfl,by omega,hol,hR.congr λi hi => ?_,hb0⟩,?_⟩,λhge => ?_⟩
 . by_cases e:i<t
   . rw[if_pos e,if_pos e]
   . rw[if_neg e,if_neg e]
     split<;>rfl
 . rintro⟨t20,o0',o13'⟩ V2 l2 ⟨t',k,et,_,htR,ek,hk,hol',hR',hb0'⟩
   dsimp only at et ek hol' hR' hb0' ⊢
   obtain rfl:t'=t:=by omega
   subst ek
   refine⟨λhlt2 => ?_,λhge2 => ?_⟩
   . have hkC:k<C:=by have:=of_decide_eq_true hlt2; omega
     obtain⟨s3,e3,_⟩:=hR'.row (i:=t') htR
     refine⟨⟨by omega,by omega⟩,s3,by rw[Int.toNat_natCast,Nat.mul_one,Nat.zero_add]; exact e3,(hcl t' k o0' V2 htR hkC (View.le_trans l1 l2) hb0').mono λv m1 V3 l3 _ ⟨r,hv,hr,hm1,hm2⟩=>⟨r,hv,λb1 V4 l4 _ hb1 => ?_⟩⟩
     have hR3:E03 5 numC (m1.del b0) V4 o13' R (λi=>if i<t' then rowL C (A i)else if i=t' then rowL k (A t')else []):=(hR'.le numC.le (View.le_trans l3 l4)).redel hm2
     obtain⟨s3',e3',q1,q2,q3,⟨o3,q4,q5,q6⟩,q7⟩:=hR3.row (i:=t') htR
     have es:s3'=s3:=B0d (Option.some.inj (e3'.symm.trans e3))
     subst es
     rw[if_neg (by omega),if_pos rfl]at q1 q6
     rw[k00]at q1
     have hnew:V4.has (some (Addr.mk b1 0 none)) r.val.cells.toList:=P04 (cs:=r.val.cells.toList) (j:=0) hb1 (λi v hv=>by rw[Nat.zero_add]; exact hv) rfl
     have hrc:numC V4 r.val.cells.toList (A t' k):=⟨r,rfl,hr.le l4⟩
     have q4':has2 m1 V4 s3'.a o3:=q4.imp (λh j v hj=>by
      have:=h j v hj
      unfold View.load at this ⊢
      cases e:s3'.a with
      | none=>rw[e]at this; simp at this
      | some ad =>
        rw[e]at this
        simp only[Option.map_some]at this ⊢
        split at this
        . simp at this
        . rename_i hs
          rw[if_neg hs]
          cases hmb:(m1.del b0) (ad.add j).block with
          | none=>rw[hmb]at this; simp at this
          | some cs=>rw[(N09 hmb).2]; rw[hmb]at this; exact this) id
     refine⟨o3,_,⟨q2,q3⟩,q4',q5,.inr hnew,rfl,oneN hrc,by unfold maxLen; omega,by omega,λ_ h2 => ?_,λa1 c1 m2 ha=>⟨⟨by omega,by omega⟩,by rw[hol',Int.toNat_natCast]; omega,?_⟩⟩
     . obtain⟨b,off,cs,g1,g2,g3⟩:=q7 1 (by omega) h2
       exact⟨b,off,cs,g1,(N09 g2).2,g3⟩
     have hm0:m1 b0≠none:=by rw[hm1]; simp
     obtain⟨k1,k2⟩:=hR3.appX hm0 (i:=t') htR e3 (z:=A t' k) rfl hrc (o':=o3) (by rw[if_neg (by omega),if_pos rfl]; exact q6) ha
     rw[i64w (by omega) (by omega)]
     refine⟨⟨t',k+1,rfl,rfl,htR,by omega,by omega,by simp[hol'],?_,by rw[k2,hm1]⟩,by omega⟩
     have e1:(0+Int.toNat (t':Int)*1)=t':=by omega
     rw[e1]
     refine k1.congr λi hi => ?_
     by_cases e:i=t'
     . subst e
       simp only[if_true,Nat.lt_irrefl,if_false]
       exact m0a _ _
     . simp only[if_neg e]
   . have e:k=C:=by have:=of_decide_eq_false hge2; omega
     subst e
     rw[i64w (by omega) (by omega)]
     refine⟨⟨t'+1,by omega,by omega,hol',hR'.congr λi hi => ?_,by rw[hb0',hb]⟩,by omega⟩
     by_cases e:i<t'
     . rw[if_pos e,if_pos (by omega)]
     . rw[if_neg e]
       by_cases e2:i=t'
       . subst e2; rw[if_pos rfl,if_pos (by omega)]
       . rw[if_neg e2,if_neg (by omega)]
 . have e:t=R:=by have:=of_decide_eq_false hge; omega
   subst e
   intro b3 hb3 hb3'
   have hR2:E03 5 numC o0 V1 o13 t (λi=>rowL C (A i)):=(hR.congr λi hi=>by rw[if_pos hi]).undel
   refine y0q λap => ?_
   refine F0n (o07 ((hR2.mat hol hb3).known (numC.le (H0b ap)) (λb cs g=>K07 g))) λv V2' V3 l3 e ap3 ⟨g,hv,hg⟩ => ?_
   subst e
   rw[f0d A r1 r2 c1 c2]at hg
   have hge0:l0i (matL t C A)=0:=by
    have:=f0d A r1 r2 c1 c2
    unfold l0i
    unfold u0h at this
    split at this
    . rename_i h; rw[if_pos h]
    . have:=congrArg List.length this; rw[w00]at this; simp at this; omega
   refine⟨g,_,hv,g,rfl,hg,ap3,?_⟩
   have:b0≠b3:=λe=>by rw[<-e,hb0]at hb3; simp at hb3
   unfold j00; rw[if_neg this]; exact hb0
def chg(b:Bool)(z w:Cq):Cq:=if b=true then(if w=Cq.zero then Cq.zero else z.div w)else z*w
def chE(b:Bool)(w:Cq):Int:=if b=true/\w=Cq.zero then 3 else 0
def chf:Bool->FuncId
 | true=>W0a
 | false=>P0b
theorem N0t(b:Bool){V:View}{x y:NumV}{z w:Cq}(hx:l01 V x z)(hy:l01 V y w)(hz:z.sz<=2^36)(hw:w.sz<=2^36) :
 a00 Tryz.prog (chf b) #[x.val,y.val] V λv V'=>∃r:NumV,v = .tuple #[r.val,.int .i64 (chE b w)]/\l01 V' r (chg b z w):=by
 cases b with
 | false=>exact x0b x y V _ ((e03 hx hy (by omega) (by omega)).mono λv V1 _ ⟨r,hv,hr⟩=>⟨r,hv,r,rfl,hr⟩)
 | true =>
   refine B0a x y V _ ((c0d hx hy hz hw).mono λv V1 _ ⟨r,e,hv,h1,h2⟩=>⟨r,e,hv,r,?_,?_⟩)
   . by_cases c:w=Cq.zero
     . rw[(h1 c).1]; unfold chE; rw[if_pos ⟨rfl,c⟩]
     . rw[(h2 c).1]; unfold chE; rw[if_neg (λx=>c x.2)]
   . by_cases c:w=Cq.zero
     . unfold chg; rw[if_pos rfl,if_pos c]; exact(h1 c).2
     . unfold chg; rw[if_pos rfl,if_neg c]; exact(h2 c).2
def ledC(b:Bool)(S W:List (List Cq))(K:List (List Bool))(i k:Nat):Cq:=if atG false K i k=true then chg b (atG Cq.zero S i k) (atG Cq.zero W i k)else Cq.zero
theorem ldv{V:View}{q:Nat}{v:Value}(h:V q=some #[v]):V.load (some (Addr.mk q 0 none))=some v:=by
 unfold View.load; simp[h]
theorem l08.at{S:Nat}{rows:List (List Cq)}(h:l08 S rows)(h1:1<=S)(i k:Nat):(atG Cq.zero rows i k).sz<=S:=by
 unfold atG
 rcases Nat.lt_or_ge i rows.length with g|g
 . exact(h _ (List.mem_of_getElem? (g08 g []))).at h1 k
 . have:rows.getD i []=[]:=by simp[List.getD,List.getElem?_eq_none g]
   rw[this]; exact Nat.le_trans J07 h1
theorem f0s(b:Bool){V m:View}{s k w:s00}{q2 q3 q4 q5 b0:Nat}{S W:List (List Cq)}{K:List (List Bool)}{i j:Nat}{e:Int}{Z:Nat}
 (g2:V q2=some #[s.rows.v]) (g3:V q3=some #[k.rows.v]) (g4:V q4=some #[.func (.func (chf b)) #[] #[]]) (g5:V q5=some #[w.rows.v])
 (hs:X00 5 numC V s.rows S) (rs:Rect S) (hk:X00 1 Go.Vc.boolC V k.rows K) (rk:Rect K) (hw:X00 5 numC V w.rows W) (rw':Rect W)
 (hi:i<S.length) (hj:j<S00 S) (lk:K.length=S.length/\S00 K=S00 S) (lw:W.length=S.length/\S00 W=S00 S) (zs:l08 Z S) (zw:l08 Z W) (z1:1<=Z) (hZ:Z<=2^36)
 (h0:m b0=some #[.int .i64 e]) :
 O02 Tryz.prog P06 #[.int .i64 (i:Int),.int .i64 (j:Int),.pointer (some (Addr.mk q2 0 none)),.pointer (some (Addr.mk q3 0 none)),.pointer (some (Addr.mk q4 0 none)),.pointer (some (Addr.mk q5 0 none)),.pointer (some (Addr.mk b0 0 none))] m V λv m2 V2 =>
  ∃r:NumV,v=r.val/\l01 V2 r (ledC b S W K i j)/\m2 b0=some #[.int .i64 (if e=0 then(if atG false K i j=true then chE b (atG Cq.zero W i j)else 0)else e)]/\∀x,x≠b0->m2 x=m x:=by
 have key:=@N0t b
 cases b
 case' false=>refine k06 m i j _ _ _ _ _ V _ ?_
 case' true=>refine c06 m i j _ _ _ _ _ V _ ?_
 all_goals
  refine⟨s,E0b (l:=[s.rows.v]) g2,rfl,C08 (w0k hs rs hi hj) λv V1 l1 _ ⟨r1,hv,h1⟩=>⟨r1,hv,?_⟩⟩
  refine⟨k,E0b (l:=[k.rows.v]) (l1 _ _ g3),rfl,C08 (Z0l (X00.le Go.Vc.boolC.le l1 hk) rk (by omega) (by omega)) λv V2 l2 _ hv=>⟨_,hv,λc => ?_,λc => ?_⟩⟩
  . have c:¬atG false K i j=true:=by simpa using c
    refine C08 (Y05 (n:=0) (by decide) (by decide)) λv V3 l3 _ ⟨r3,hv,h3⟩=>⟨r3,hv,?_⟩
    refine C08 (g0c h3) λv V4 l4 _ ⟨r4,hv,h4⟩=>⟨r4,hv,r4,rfl,?_,?_,λx _=>rfl⟩
    . unfold ledC; rw[if_neg c]; exact h4
    . rw[h0,if_neg c]
      by_cases d:e=0
      . rw[if_pos d,d]
      . rw[if_neg d]
  . have c:atG false K i j=true:=by simpa using c
    refine⟨⟨⟩,ldv (View.le_trans l1 l2 _ _ g4),w,E0b (l:=[w.rows.v]) (View.le_trans l1 l2 _ _ g5),rfl,?_⟩
    refine C08 (w0k (X00.le numC.le (View.le_trans l1 l2) hw) rw' (by omega) (by omega)) λv V5 l5 _ ⟨r5,hv,h5⟩=>⟨r5,hv,?_⟩
    refine C08 (key (h1.le (View.le_trans l2 l5)) h5 (Nat.le_trans (zs.at z1 i j) hZ) (Nat.le_trans (zw.at z1 i j) hZ)) λv V6 l6 _ ⟨r6,hv,h6⟩=>⟨r6,_,hv,e,.inl (ldv h0),λd => ?_,λd => ?_⟩
    . have d:e=0:=by simpa using d
      refine⟨b0,0,[.int .i64 e],rfl,h0,Nat.le_refl 1,r6,rfl,?_,?_,λx hx => ?_⟩
      . unfold ledC; rw[if_pos c]; exact h6
      . rw[if_pos d,if_pos c]; unfold j00; rw[if_pos rfl]; rfl
      . unfold j00; rw[if_neg hx]
    . have d:¬e=0:=by simpa using d
      refine⟨r6,rfl,?_,?_,λx hx=>rfl⟩
      . unfold ledC; rw[if_pos c]; exact h6
      . rw[if_neg d]; exact h0
def badC(b:Bool)(W:List (List Cq))(K:List (List Bool))(i k:Nat):Bool:=atG false K i k&&decide (chE b (atG Cq.zero W i k)≠0)
def p0i(b:Bool)(W:List (List Cq))(K:List (List Bool))(C i k:Nat):Bool:=((List.range i).any λi'=>(List.range C).any (badC b W K i'))||(List.range k).any (badC b W K i)
theorem i0q(b:Bool)(W:List (List Cq))(K:List (List Bool))(C i:Nat):p0i b W K C i C=p0i b W K C (i+1) 0:=by
 unfold p0i
 rw[List.range_succ,List.any_append]
 simp
theorem j0q(b:Bool)(W:List (List Cq))(K:List (List Bool))(C i k:Nat):p0i b W K C i (k+1)=(p0i b W K C i k||badC b W K i k):=by
 unfold p0i
 rw[List.range_succ (n:=k),List.any_append,<-Bool.or_assoc]
 simp
theorem w0w(b:Bool)(w:Cq):chE b w=0\/chE b w=3:=by unfold chE; split<;>simp
def I0h(rows wts:List (List Cq))(K:List (List Bool)):Prop:=(rows.length=wts.length/\S00 rows=S00 wts)/\rows.length=K.length/\S00 rows=S00 K
instance (rows wts:List (List Cq)) (K:List (List Bool)):Decidable (I0h rows wts K):=by unfold I0h; infer_instance
def ledE(b:Bool)(rows:List (List Cq))(ws vs:List Cq)(wts:List (List Cq))(K:List (List Bool)):Int :=
 if e05 rows ws vs=true/\I0h rows wts K then(if p0i b wts K (S00 rows) rows.length 0=true then 3 else 0)else 4
def ledF(b:Bool)(rows:List (List Cq))(ws vs:List Cq)(wts:List (List Cq))(K:List (List Bool)):List (List Cq) :=
 b09 true (matL rows.length (S00 rows) (ledC b (b09 false rows ws vs) wts K)) ws vs
def ledR(b:Bool)(rows:List (List Cq))(ws vs:List Cq)(wts:List (List Cq))(K:List (List Bool)):List (List Cq):=if ledE b rows ws vs wts K=0 then ledF b rows ws vs wts K else []
theorem J04{α:Type}{n m:Nat}(A:Nat->Nat->α)(h:1<=n):S00 (matL n m A)=m:=by
 obtain⟨row,e,hl⟩:=e0c (rows:=matL n m A) (by rw[w00]; omega)
 rw[Q04 (by omega)]at e
 obtain rfl:=Option.some.inj e
 rw[<-hl,k00]
theorem m08{α:Type}{n m:Nat}(A:Nat->Nat->α)(h:1<=n):Rect (matL n m A):=by
 intro row hr
 rw[J04 A h]
 unfold matL at hr
 obtain⟨i,_,rfl⟩:=List.mem_map.1 hr
 exact k00 _ _
theorem A0d{S n m:Nat}{A:Nat->Nat->Cq}(h:∀i k,i<n->k<m->(A i k).sz<=S):l08 S (matL n m A):=by
 intro row hr z hz
 unfold matL at hr
 obtain⟨i,hi,rfl⟩:=List.mem_map.1 hr
 unfold rowL at hz
 obtain⟨k,hk,rfl⟩:=List.mem_map.1 hz
 exact h i k (by simpa using hi) (by simpa using hk)
set_option maxHeartbeats 1000000 in
theorem O0t(b:Bool){V:View}{g wg kg:s00}{w v:Sl}{rows wts:List (List Cq)}{ws vs:List Cq}{K:List (List Bool)}(S T Z Zc:Nat)(h:X00 5 numC V g.rows rows)(hr:Rect rows)(hq:l02 V w ws)(hv:l02 V v vs)
 (hw:X00 5 numC V wg.rows wts) (rw':Rect wts) (hk:X00 1 Go.Vc.boolC V kg.rows K) (rk:Rect K)
 (hS:l08 S rows) (hT:okSz T ws) (hT2:okSz T vs) (s1:1<=S) (t1:1<=T) (hZ1:64*(64*(S+T+2)+9+T+2)+9<=Z) (hZ:Z<=2^36) (zw:l08 Z wts)
 (hc:∀i k,i<rows.length->k<S00 rows->(ledC b (b09 false rows ws vs) wts K i k).sz<=Zc) (c1:1<=Zc) (hsz:64*(64*(Zc+T+2)+9+T+2)<=2^39) :
 a00 Tryz.prog Z09 #[g.val,w.v,v.v,wg.val,kg.val,.func (.func (chf b)) #[] #[]] V λu V'=>∃r:s00,u = .tuple #[r.val,.int .i64 (ledE b rows ws vs wts K)]/\X00 5 numC V' r.rows (ledR b rows ws vs wts K):=by
 have bad:∀(V':View) (e:Int),ledE b rows ws vs wts K=e->e≠0->∃r:s00,Value.tuple #[(s00.mk (Sl.mk none 0 0)).val,.int .i64 e] = .tuple #[r.val,.int .i64 (ledE b rows ws vs wts K)]/\X00 5 numC V' r.rows (ledR b rows ws vs wts K):=λV' e he hne=>by
  refine⟨⟨⟨none,0,0⟩⟩,by rw[he],?_⟩
  unfold ledR; rw[if_neg (by rw[he]; exact hne)]; exact y00.nil
 have k1:=@f0s b
 obtain⟨A,hA⟩:∃A,A=ledC b (b09 false rows ws vs) wts K:=⟨_,rfl⟩
 obtain⟨bt,hbt⟩:∃bt,bt=p0i b wts K (S00 rows):=⟨_,rfl⟩
 obtain⟨bc,hbc⟩:∃bc,bc=badC b wts K:=⟨_,rfl⟩
 have hlast:∀i,bt i (S00 rows)=bt (i+1) 0:=λi=>by rw[hbt]; exact i0q _ _ _ _ _
 have hstep:∀i k,bt i (k+1)=(bt i k||bc i k):=λi k=>by rw[hbt,hbc]; exact j0q _ _ _ _ _ _
 have hcell:∀i k,bc i k=(atG false K i k&&decide (chE b (atG Cq.zero wts i k)≠0)):=λi k=>by rw[hbc]; rfl
 have hE:e05 rows ws vs=true->I0h rows wts K->ledE b rows ws vs wts K=if bt rows.length 0=true then 3 else 0:=λx y=>by unfold ledE; rw[if_pos ⟨x,y⟩,hbt]
 have hF:ledF b rows ws vs wts K=b09 true (matL rows.length (S00 rows) A) ws vs:=by rw[hA]; rfl
 have hcA:∀i k,i<rows.length->k<S00 rows->(A i k).sz<=Zc:=by rw[hA]; exact hc
 have h00:bt 0 0=false:=by rw[hbt]; rfl
 cases b
 case' false=>refine u06 g w v wg kg ⟨⟩ V _ ?_
 case' true=>refine l06 g w v wg kg ⟨⟩ V _ ?_
 all_goals
  refine(o0c S T h hr hq hv hS hT hT2 s1 t1 (by omega)).mono λu V1 l1 ⟨r1,hu,h1⟩=>⟨r1,_,hu,λc=>⟨by decide,λV2 _ _ => ?_⟩,λc => ?_⟩
  . have c:e05 rows ws vs=false:=by
      cases e:e05 rows ws vs with
      | false=>rfl
      | true=>unfold M0d at c; rw[if_pos e]at c; simp at c
    have:M0d rows ws vs=4:=by unfold M0d; rw[if_neg (by rw[c]; simp)]
    rw[this]
    exact bad V2 4 (by unfold ledE; rw[if_neg (λx=>by rw[c]at x; simp at x)]) (by decide)
  have ok:e05 rows ws vs=true:=by
   cases e:e05 rows ws vs with
   | true=>rfl
   | false=>unfold M0d at c; rw[if_neg (by rw[e]; simp)]at c; simp at c
  refine(M0t (X00.le numC.le l1 h) (X00.le numC.le l1 hw)).mono λu V3 l3 hu=>⟨_,hu,λd=>⟨by decide,λV4 _ _ => ?_⟩,λd => ?_⟩
  . have d:¬(rows.length=wts.length/\S00 rows=S00 wts):=λx=>by rw[decide_eq_true x]at d; simp at d
    exact bad V4 4 (by unfold ledE; rw[if_neg (λx=>d x.2.1)]) (by decide)
  have d:rows.length=wts.length/\S00 rows=S00 wts:=by simpa using d
  refine(u0o (X00.le numC.le (View.le_trans l1 l3) h) (X00.le Go.Vc.boolC.le (View.le_trans l1 l3) hk)).mono λu V5 l5 hu=>⟨_,hu,λd2=>⟨by decide,λV6 _ _ => ?_⟩,λd2 => ?_⟩
  . have d2:¬(rows.length=K.length/\S00 rows=S00 K):=λx=>by rw[decide_eq_true x]at d2; simp at d2
    exact bad V6 4 (by unfold ledE; rw[if_neg (λx=>d2 x.2.2)]) (by decide)
  have d2:rows.length=K.length/\S00 rows=S00 K:=by simpa using d2
  have fit:I0h rows wts K:=⟨d,d2⟩
  obtain⟨n,mm,hn,hm,ew,ev,hM⟩:=K0f ok hr
  have p1:1<=2^n:=Nat.pow_pos (by omega)
  have p2:2^n<=2^6:=Nat.pow_le_pow_right (by omega) hn
  have p3:1<=2^mm:=Nat.pow_pos (by omega)
  have p4:2^mm<=2^6:=Nat.pow_le_pow_right (by omega) hm
  have lR:=hM.len
  have lC:=hM.cols
  have mF:Mid (b09 false rows ws vs) n mm:=W0l hM false ew ev
  have sF:=t0o hM hn hm false ew ev hS hT hT2 s1 t1
  have sF':l08 Z (b09 false rows ws vs):=λrow hr z hz=>Nat.le_trans (sF row hr z hz) hZ1
  unfold o0i at h1
  rw[if_pos ok]at h1
  refine(u02 (X00.le numC.le (View.le_trans l1 (View.le_trans l3 l5)) h)).mono λu V7 l7 hu=>⟨_,_,hu,λb4 V8 l8 g8 b5 V9 l9 g9 b6 V10 l10 g10 b7 V11 l11 g11 b8 _ g12 => ?_⟩
  have L11:=View.le_trans l8 (View.le_trans l9 (View.le_trans l10 l11))
  have L1:=View.le_trans l3 (View.le_trans l5 (View.le_trans l7 L11))
  have L0:=View.le_trans l1 L1
  refine(x0k (b0:=b8) (f:=⟨some (Addr.mk b4 0 none),some (Addr.mk b5 0 none),some (Addr.mk b6 0 none),some (Addr.mk b7 0 none),some (Addr.mk b8 0 none)⟩) (R:=rows.length) (C:=S00 rows) A (λi k=>if bt i k=true then 3 else 0)
   (by omega) (by omega) (by omega) (by omega) (by unfold j00; rw[if_pos rfl,h00]; rfl) (λi=>by rw[hlast]) (λi k m' V' hi hk' hle hm' => ?_)).mono λu m1 V12 l12 _ ⟨r7,hu,h7,ap,hb⟩=>⟨r7,hu,_,.inl (ldv hb),λe=>⟨_,.inl (ldv hb),by decide,λV13 _ _ => ?_⟩,λe=>⟨by decide,λV14 l14 m14 => ?_⟩⟩
  . have lx:∀ {b:Nat} {cs:Array Value},V11 b=some cs->V' b=some cs:=λh=>hle _ _ h
    refine(k1 (e:=if bt i k=true then 3 else 0) (lx (View.le_trans l9 (View.le_trans l10 l11) _ _ g8)) (lx (View.le_trans l10 l11 _ _ g9)) (lx (l11 _ _ g10)) (lx g11) (X00.le numC.le (View.le_trans L1 hle) h1) mF.rect (X00.le Go.Vc.boolC.le (View.le_trans L0 hle) hk) rk (X00.le numC.le (View.le_trans L0 hle) hw) rw'
     (by rw[mF.len]; omega) (by rw[mF.cols]; omega) ⟨by rw[mF.len]; omega,by rw[mF.cols]; omega⟩ ⟨by rw[mF.len]; omega,by rw[mF.cols]; omega⟩ sF' zw (by omega) hZ hm').mono λu m2 V2 _ _ ⟨r,hu,hr,hm2,hx⟩=>⟨r,hu,by rw[hA]; exact hr,?_,hx⟩
    rw[hm2]
    show some #[Value.int IntKind.i64 _]=some #[Value.int IntKind.i64 (if bt i (k+1)=true then 3 else 0)]
    rw[hstep,hcell]
    by_cases x:bt i k=true
    . rw[x,Bool.true_or]; rfl
    . have x:bt i k=false:=by simpa using x
      rw[x,Bool.false_or]
      by_cases y:atG false K i k=true
      . rw[y,Bool.true_and]
        rcases w0w _ (atG Cq.zero wts i k)with q|q<;>rw[q]<;>rfl
      . have y:atG false K i k=false:=by simpa using y
        rw[y]; rfl
  . have e':bt rows.length 0=true:=by
      refine Classical.byContradiction λx => ?_
      rw[if_neg x]at e; simp at e
    rw[if_pos e']
    exact bad V13 3 (by rw[hE ok fit,if_pos e']) (by decide)
  . have e':¬bt rows.length 0=true:=λx=>by rw[if_pos x]at e; simp at e
    have le14:(p07 m1 V12).le V14:=λbb cs g=>by
     rcases g0d g with g|⟨_,g⟩
     . exact m14 _ _ g
     . exact l14 _ _ g
    have M2:Mid (matL rows.length (S00 rows) A) n mm:=⟨m08 _ (by omega),by rw[w00,lR],by rw[J04 _ (by omega),lC]⟩
    have L14:=View.le_trans L0 (View.le_trans l12 l14)
    refine(u0k Zc T (X00.le numC.le le14 h7) M2.rect (hq.le L14) (hv.le L14) (A0d hcA) hT hT2 c1 t1 hsz).mono λu V15 _ ⟨r8,hu,h8⟩=>⟨r8,_,hu,r8,?_,?_⟩
    . rw[hE ok fit,if_neg e']
      unfold M0d
      rw[if_pos]
      unfold e05
      unfold e05 at ok
      rw[J04 _ (by omega),w00]; exact ok
    . unfold o0i at h8
      rw[if_pos (by unfold e05; unfold e05 at ok; rw[J04 _ (by omega),w00]; exact ok)]at h8
      unfold ledR
      rw[if_pos (by rw[hE ok fit,if_neg e']),hF]
      exact h8
structure Lin (F:(Nat->Cq)->Cq):Prop where
 add:∀f g,F (λi=>f i+g i)=F f+F g
 sub:∀f g,F (λi=>f i-g i)=F f-F g
 mul:∀f c,F (λi=>f i*c)=F f*c
def stg:Nat->(Nat->Cq)->List Cq->Nat->Cq
 | 0,f,_,_=>f 0
 | m+1,f,ws,i =>
   if i<2^m then stg m (λk=>f (2*k)) (a02 ws 0) i+stg m (λk=>f (1+2*k)) (a02 ws 0) i*nth ws i
   else stg m (λk=>f (2*k)) (a02 ws 0) (i-2^m)-stg m (λk=>f (1+2*k)) (a02 ws 0) (i-2^m)*nth ws (i-2^m)
theorem b0f:∀(m:Nat) {f g:Nat->Cq} (ws:List Cq) (_:∀j,j<2^m->f j=g j) (i:Nat),stg m f ws i=stg m g ws i
 | 0,f,g,ws,h,i=>h 0 (by decide)
 | m+1,f,g,ws,h,i=>by
   have hp:2^(m+1)=2*2^m:=by rw[Nat.pow_succ]; omega
   have e0:=λi=>b0f m (f:=λk=>f (2*k)) (g:=λk=>g (2*k)) (a02 ws 0) (λj hj=>h _ (by omega)) i
   have e1:=λi=>b0f m (f:=λk=>f (1+2*k)) (g:=λk=>g (1+2*k)) (a02 ws 0) (λj hj=>h _ (by omega)) i
   simp only[stg,e0,e1]
theorem y0k:∀(m:Nat) {f:Nat->Cq} {zs:List Cq} (ws:List Cq) (_:zs.length=2^m) (_:∀j,j<2^m->nth zs j=f j) (i:Nat) (_:i<2^m),nth (n02 m zs ws) i=stg m f ws i
 | 0,f,zs,ws,hl,h,i,hi=>by
   have:i=0:=by simp at hi; exact hi
   subst this
   exact h 0 (by decide)
 | m+1,f,zs,ws,hl,h,i,hi=>by
   have hp:2^(m+1)=2*2^m:=by rw[Nat.pow_succ]; omega
   have l0:(zs.length+1-0) / 2=2^m:=by omega
   have l1:(zs.length+1-1) / 2=2^m:=by omega
   have e0:=y0k m (f:=λk=>f (2*k)) (zs:=a02 zs 0) (a02 ws 0) (by rw[m03,l0]) (λj hj=>by rw[P09 (by omega),Nat.zero_add]; exact h _ (by omega))
   have e1:=y0k m (f:=λk=>f (1+2*k)) (zs:=a02 zs 1) (a02 ws 0) (by rw[m03,l1]) (λj hj=>by rw[P09 (by omega)]; exact h _ (by omega))
   unfold n02
   rw[d0c hi]
   unfold stg
   by_cases c:i<2^m
   . rw[if_pos c,if_pos c,e0 i c,e1 i c]
   . rw[if_neg c,if_neg c,e0 _ (by omega),e1 _ (by omega)]
theorem z0k{F:(Nat->Cq)->Cq}(hF:Lin F):∀(m:Nat) (G:Nat->Nat->Cq) (ws:List Cq) (k:Nat),F (λi=>stg m (G i) ws k)=stg m (λj=>F (λi=>G i j)) ws k
 | 0,G,ws,k=>rfl
 | m+1,G,ws,k=>by
   have e0:=λk=>z0k hF m (λi k=>G i (2*k)) (a02 ws 0) k
   have e1:=λk=>z0k hF m (λi k=>G i (1+2*k)) (a02 ws 0) k
   simp only[stg]
   by_cases c:k<2^m
   . simp only[if_pos c]
     rw[hF.add,hF.mul,e0,e1]
   . simp only[if_neg c]
     rw[hF.sub,hF.mul,e0,e1]
theorem n0j(a b c:Cq):(a+b)*c=a*c+b*c:=Cq.ext' (by simp only[g02,b03,U02]; grind) (by simp only[i02,b03,U02]; grind)
theorem o0j(a b c:Cq):(a-b)*c=a*c-b*c:=Cq.ext' (by simp only[g02,m02,q02]; grind) (by simp only[i02,m02,q02,m02]; grind)
theorem a0m(a b c:Cq):a*b*c=a*c*b:=Cq.ext' (by simp only[g02,i02]; grind) (by simp only[g02,i02]; grind)
theorem i0v:Lin λh=>h 0+h 1 :=
 ⟨λf g=>Cq.ext' (by simp only[b03]; grind) (by simp only[U02]; grind),λf g=>Cq.ext' (by simp only[b03,m02]; grind) (by simp only[U02,q02]; grind),λf c=>(n0j _ _ _).symm⟩
theorem j0v:Lin λh=>h 0-h 1 :=
 ⟨λf g=>Cq.ext' (by simp only[b03,m02]; grind) (by simp only[U02,q02]; grind),λf g=>Cq.ext' (by simp only[m02]; grind) (by simp only[q02]; grind),λf c=>(o0j _ _ _).symm⟩
theorem k0v(c:Cq):Lin λh=>h 0*c:=⟨λf g=>n0j _ _ _,λf g=>o0j _ _ _,λf d=>a0m _ _ _⟩
def two(f g:Nat->Cq)(i:Nat):Nat->Cq:=if i=0 then f else g
def trn(back:Bool)(m:Nat)(f:Nat->Cq)(ws:List Cq)(i:Nat):Cq:=if back=true then stg m f (f07 ws) i*P07 (2^m)else stg m f ws i
theorem c0f{back:Bool}{m:Nat}{f g:Nat->Cq}{ws:List Cq}(h:∀j,j<2^m->f j=g j)(i:Nat):trn back m f ws i=trn back m g ws i:=by
 unfold trn; rw[b0f m _ h,b0f m _ h]
theorem J0h{F:(Nat->Cq)->Cq}(hF:Lin F)(back:Bool)(m:Nat)(G:Nat->Nat->Cq)(ws:List Cq)(k:Nat):F (λi=>trn back m (G i) ws k)=trn back m (λj=>F (λi=>G i j)) ws k:=by
 unfold trn
 cases back
 . exact z0k hF m G ws k
 . simp only[if_true]
   rw[hF.mul,z0k hF]
theorem s0n(back:Bool)(m:Nat)(ws:List Cq)(k:Nat):Lin λf=>trn back m f ws k :=
 ⟨λf g=>(J0h i0v back m (two f g) ws k).symm,λf g=>(J0h j0v back m (two f g) ws k).symm,λf c=>(J0h (k0v c) back m (two f f) ws k).symm⟩
theorem L0f{back:Bool}{m:Nat}{f:Nat->Cq}{zs ws:List Cq}(hl:zs.length=2^m)(hw:ws.length=2^m)(h:∀j,j<2^m->nth zs j=f j){i:Nat}(hi:i<2^m):nth (Z08 back zs ws) i=trn back m f ws i:=by
 unfold Z08 trn C0g B0g
 rw[hw,k08]
 cases back
 . exact y0k m ws hl h i hi
 . simp only[if_true]
   unfold x06
   rw[d0c (by rw[N02]; exact hi),N02,y0k m (f07 ws) hl h i hi]
theorem w0o{m:Nat}(hm:m<=2)(f:Nat->Cq){k:Nat}(hk:k<2^m):trn true m (λj=>trn false m f (w02 m) j) (w02 m) k=f k:=by
 have ho:(w02 m).length=2^m:=by
  have:m=0\/m=1\/m=2:=by omega
  rcases this with rfl|rfl|rfl<;>rfl
 have hz:(rowL (2^m) f).length=2^m:=k00 _ _
 have hf:∀j,j<2^m->nth (rowL (2^m) f) j=f j:=λj hj=>by unfold nth; rw[List.getD_eq_getElem?_getD,n03 hj]; rfl
 have e:=p0t hm hz
 have hs:(Z08 false (rowL (2^m) f) (w02 m)).length=2^m:=a09 ho
 have g:=L0f (back:=true) (f:=λj=>trn false m f (w02 m) j) hs ho (λj hj=>L0f hz ho hf hj) hk
 rw[<-g,<-hf k hk]
 show nth (C0g (B0g (rowL (2^m) f) (w02 m)) (w02 m)) k=_
 unfold C0g B0g
 rw[ho,k08,e]
theorem g0s{n m:Nat}(back:Bool)(A:Nat->Nat->Cq){ws:List Cq}(hw:ws.length=2^m):((matL n (2^m) A).map λrow=>Z08 back row ws)=matL n (2^m) λi k=>trn back m (A i) ws k:=by
 unfold matL
 rw[List.map_map]
 refine List.map_congr_left λi _ => ?_
 show Z08 back (rowL (2^m) (A i)) ws=rowL (2^m) _
 apply List.ext_getElem?
 intro k
 by_cases hk:k<2^m
 . rw[n03 hk,f0k (by rw[a09 hw]; exact hk)]
   rw[L0f (f:=A i) (k00 _ _) hw (λj hj=>by unfold nth; rw[List.getD_eq_getElem?_getD,n03 hj]; rfl) hk]
 . rw[List.getElem?_eq_none (by rw[a09 hw]; omega),List.getElem?_eq_none (by rw[k00]; omega)]
theorem P0t{n m:Nat}(A:Nat->Nat->Cq)(h:1<=n):S00 (matL n m A)=m:=by
 obtain⟨row,e,hl⟩:=e0c (rows:=matL n m A) (by rw[w00]; omega)
 rw[Q04 (by omega)]at e
 obtain rfl:=Option.some.inj e
 rw[<-hl,k00]
theorem x0w{n m i k:Nat}(A:Nat->Nat->Cq)(hi:i<n)(hk:k<m):atG Cq.zero (matL n m A) i k=A i k:=by
 unfold atG
 have e1:(matL n m A).getD i []=rowL m (A i):=by rw[List.getD_eq_getElem?_getD,Q04 hi]; rfl
 rw[e1,List.getD_eq_getElem?_getD,n03 hk]; rfl
theorem x0o{n m:Nat}(A:Nat->Nat->Cq)(h:1<=n):g0e Cq.zero (matL n m A)=matL m n λj i=>A i j:=by
 unfold g0e
 rw[P0t A h,w00]
 exact z0d λj i hj hi=>x0w A hi hj
theorem pow1(n:Nat):1<=2^n:=Nat.pow_pos (by omega)
theorem Q0t{n m:Nat}(back:Bool)(A:Nat->Nat->Cq){ws vs:List Cq}(hw:ws.length=2^m)(hv:vs.length=2^n) :
 b09 back (matL (2^n) (2^m) A) ws vs=matL (2^n) (2^m) λi k=>trn back n (λi'=>trn back m (A i') ws k) vs i:=by
 unfold b09
 rw[g0s back A hw,x0o _ (pow1 n),g0s back _ hv,x0o _ (pow1 m)]
def dft(back:Bool)(n m:Nat)(A:Nat->Nat->Cq)(i k:Nat):Cq:=trn back n (λi'=>trn back m (A i') (w02 m) k) (w02 n) i
theorem j0c{m:Nat}(hm:m<=2):(w02 m).length=2^m:=by
 have:m=0\/m=1\/m=2:=by omega
 rcases this with rfl|rfl|rfl<;>rfl
theorem d0f{n m:Nat}(back:Bool)(A:Nat->Nat->Cq)(hn:n<=2)(hm:m<=2):b09 back (matL (2^n) (2^m) A) (w02 m) (w02 n)=matL (2^n) (2^m) (dft back n m A) :=
 Q0t back A (j0c hm) (j0c hn)
theorem i0s{back:Bool}{n m:Nat}{A B:Nat->Nat->Cq}(h:∀i k,i<2^n->k<2^m->A i k=B i k)(i k:Nat):dft back n m A i k=dft back n m B i k:=by
 unfold dft
 exact c0f (λi' hi=>c0f (λk' hk=>h i' k' hi hk) k) i
theorem j0s{m:Nat}(hm:m<=2)(f:Nat->Cq){k:Nat}(hk:k<2^m):trn false m (λj=>trn true m f (w02 m) j) (w02 m) k=f k:=by
 have ho:=j0c hm
 have hz:(rowL (2^m) f).length=2^m:=k00 _ _
 have hf:∀j,j<2^m->nth (rowL (2^m) f) j=f j:=λj hj=>by unfold nth; rw[List.getD_eq_getElem?_getD,n03 hj]; rfl
 have e:=q0t hm hz
 have hs:(Z08 true (rowL (2^m) f) (w02 m)).length=2^m:=a09 ho
 have g:=L0f (back:=false) (f:=λj=>trn true m f (w02 m) j) hs ho (λj hj=>L0f hz ho hf hj) hk
 rw[<-g,<-hf k hk]
 show nth (B0g (C0g (rowL (2^m) f) (w02 m)) (w02 m)) k=_
 unfold C0g B0g
 rw[ho,k08,e]
theorem S0t{n m:Nat}(hn:n<=2)(hm:m<=2)(A:Nat->Nat->Cq){i k:Nat}(hi:i<2^n)(hk:k<2^m):dft true n m (dft false n m A) i k=A i k:=by
 unfold dft
 have c:∀i',trn true m (λk'=>trn false n (λi''=>trn false m (A i'') (w02 m) k') (w02 n) i') (w02 m) k=trn false n (λi''=>A i'' k) (w02 n) i':=λi'=>by
  have:=J0h (s0n true m (w02 m) k) false n (λk' i''=>trn false m (A i'') (w02 m) k') (w02 n) i'
  rw[this]
  exact c0f (λj _=>w0o hm (A j) hk) i'
 simp only[c]
 exact w0o hn (λi''=>A i'' k) hi
theorem y0o{n m:Nat}(hn:n<=2)(hm:m<=2)(A:Nat->Nat->Cq){i k:Nat}(hi:i<2^n)(hk:k<2^m):dft false n m (dft true n m A) i k=A i k:=by
 unfold dft
 have c:∀i',trn false m (λk'=>trn true n (λi''=>trn true m (A i'') (w02 m) k') (w02 n) i') (w02 m) k=trn true n (λi''=>A i'' k) (w02 n) i':=λi'=>by
  have:=J0h (s0n false m (w02 m) k) true n (λk' i''=>trn true m (A i'') (w02 m) k') (w02 n) i'
  rw[this]
  exact c0f (λj _=>j0s hm (A j) hk) i'
 simp only[c]
 exact j0s hn (λi''=>A i'' k) hi
theorem l0v(b:Bool)(m:Nat)(f g:Nat->Cq)(ws:List Cq)(k:Nat):trn b m (λi=>f i-g i) ws k=trn b m f ws k-trn b m g ws k:=(s0n b m ws k).sub f g
theorem m0v(b:Bool)(n m:Nat)(A B:Nat->Nat->Cq)(i k:Nat):dft b n m (λi k=>A i k-B i k) i k=dft b n m A i k-dft b n m B i k:=by
 unfold dft; simp only[l0v]
theorem u0u{back:Bool}{m S:Nat}(hm:m<=2){f:Nat->Cq}(h:∀j,j<2^m->(f j).sz<=S){k:Nat}(hk:k<2^m):(trn back m f (w02 m) k).sz<=4*(S+6)+9:=by
 have hw:=j0c hm
 have hz:(rowL (2^m) f).length=2^m:=k00 _ _
 have hf:∀j,j<2^m->nth (rowL (2^m) f) j=f j:=λj hj=>by unfold nth; rw[List.getD_eq_getElem?_getD,n03 hj]; rfl
 have e:=L0f (back:=back) hz hw hf hk
 have hS:∀i,i<2^m->(nth (rowL (2^m) f) i).sz<=S:=λi hi=>by rw[hf i hi]; exact h i hi
 have hT:∀i,i<2^m->(nth (w02 m) i).sz<=4:=λi hi=>s0o hm i hi
 have h2:2^m<=2^2:=Nat.pow_le_pow_right (by omega) hm
 have h3:=Nat.mul_le_mul_right (S+4+2) h2
 rw[<-e]
 unfold Z08
 split
 . unfold C0g; rw[hw,k08]
   have hl:=N02 m (rowL (2^m) f) (f07 (w02 m))
   have:=e0j (n02 m (rowL (2^m) f) (f07 (w02 m))) (4*(S+6)) (by rw[hl]; omega) (λi hi => ?_) k (by rw[hl]; exact hk)
   . exact this
   . rw[hl]at hi
     have hc:=g0k (w02 m) 4 (λi hi=>hT i (by rw[<-hw]; exact hi))
     rw[hw]at hc
     have:=W08 m (rowL (2^m) f) (f07 (w02 m)) S 4 hz (by rw[T0c,hw]) hS hc i hi
     omega
 . unfold B0g; rw[hw,k08]
   have:=W08 m (rowL (2^m) f) (w02 m) S 4 hz hw hS hT k hk
   omega
theorem k0s{back:Bool}{n m S:Nat}(hn:n<=2)(hm:m<=2){A:Nat->Nat->Cq}(h:∀i k,i<2^n->k<2^m->(A i k).sz<=S){i k:Nat}(hi:i<2^n)(hk:k<2^m):(dft back n m A i k).sz<=16*S+165:=by
 unfold dft
 have:=u0u (back:=back) (S:=4*(S+6)+9) hn (f:=λi'=>trn back m (A i') (w02 m) k) (λj hj=>u0u hm (λk' hk'=>h j k' hj hk') hk) hi
 omega
def sumN:Nat->(Nat->Rat)->Rat
 | 0,_=>0
 | k+1,g=>sumN k g+g k
theorem M0f:∀ {k:Nat} {f g:Nat->Rat},(∀i,i<k->f i=g i)->sumN k f=sumN k g
 | 0,_,_,_=>rfl
 | k+1,f,g,h=>by unfold sumN; rw[M0f (k:=k) λi hi=>h i (by omega),h k (by omega)]
theorem z0o:∀(k:Nat) (f g:Nat->Rat),sumN k (λi=>f i+g i)=sumN k f+sumN k g
 | 0,_,_=>by unfold sumN; grind
 | k+1,f,g=>by unfold sumN; rw[z0o k]; grind
theorem A0k:∀(k:Nat) (c:Rat) (f:Nat->Rat),sumN k (λi=>c*f i)=c*sumN k f
 | 0,c,_=>by unfold sumN; grind
 | k+1,c,f=>by unfold sumN; rw[A0k k]; grind
theorem b0m:∀(k:Nat),sumN k (λ_=>0)=0
 | 0=>rfl
 | k+1=>by unfold sumN; rw[b0m k]; grind
theorem K0h:∀(n m:Nat) (g:Nat->Nat->Rat),sumN n (λi=>sumN m (g i))=sumN m (λk=>sumN n (λi=>g i k))
 | 0,m,g=>by
   show(0:Rat)=sumN m λk=>0
   rw[b0m]
 | n+1,m,g=>by
   show sumN n (λi=>sumN m (g i))+sumN m (g n)=sumN m λk=>sumN n (λi=>g i k)+g n k
   rw[K0h n m g,z0o]
theorem m0e:∀ {k:Nat} {f:Nat->Rat},(∀i,i<k->0<=f i)->0<=sumN k f
 | 0,_,_=>by unfold sumN; grind
 | k+1,f,h=>by
   have h1:=m0e (k:=k) (f:=f) λi hi=>h i (by omega)
   have h2:=h k (by omega)
   unfold sumN; grind
theorem e0f:∀ {k:Nat} {f:Nat->Rat},(∀i,i<k->0<=f i)->(sumN k f=0↔∀i,i<k->f i=0)
 | 0,_,_=>⟨λ_ i hi=>absurd hi (by omega),λ_=>rfl⟩
 | k+1,f,h=>by
   have h0:=λi (hi:i<k)=>h i (by omega)
   have ih:=e0f (k:=k) (f:=f) h0
   have h1:=m0e h0
   have h2:=h k (by omega)
   unfold sumN
   constructor
   . intro e i hi
     have a:sumN k f=0:=by grind
     have b:f k=0:=by grind
     by_cases c:i=k
     . subst c; exact b
     . exact ih.1 a i (by omega)
   . intro e
     rw[ih.2 λi hi=>e i (by omega),e k (by omega)]; grind
theorem t0n(z:Cq):0<=z.norm:=by
 have a:0<=z.re*z.re:=by
  rcases Rat.le_total (a:=0) (b:=z.re)with h|h
  . exact Rat.mul_nonneg h h
  . have:=Rat.mul_nonneg (a := -z.re) (b := -z.re) (by grind) (by grind); grind
 have b:0<=z.im*z.im:=by
  rcases Rat.le_total (a:=0) (b:=z.im)with h|h
  . exact Rat.mul_nonneg h h
  . have:=Rat.mul_nonneg (a := -z.im) (b := -z.im) (by grind) (by grind); grind
 unfold Cq.norm; grind
theorem l0s{a b:Rat}(h:a*a+b*b=0):a=0:=by
 have p:∀x:Rat,0<=x*x:=λx=>by
  rcases Rat.le_total (a:=0) (b:=x)with h|h
  . exact Rat.mul_nonneg h h
  . have:=Rat.mul_nonneg (a := -x) (b := -x) (by grind) (by grind); grind
 have q:=p a
 have r:=p b
 have e:a*a=0:=by grind
 rcases Rat.mul_eq_zero.1 e with h|h<;>exact h
theorem c0m{z:Cq}:z.norm=0↔z=Cq.zero:=by
 unfold Cq.norm
 constructor
 . intro h
   exact Cq.ext' (l0s h) (l0s (a:=z.im) (b:=z.re) (by grind))
 . intro h; subst h; unfold Cq.zero; grind
theorem p0j{m:Nat}(hm:m<=2)(f:Nat->Cq):sumN (2^m) (λk=>(trn false m f (w02 m) k).norm)=((2^m:Nat):Rat)*sumN (2^m) (λk=>(f k).norm):=by
 have hm:m=0\/m=1\/m=2:=by omega
 rcases hm with rfl|rfl|rfl
 . show 0+(f 0).norm=((1:Nat):Rat)*(0+(f 0).norm)
   grind
 . have e0:trn false 1 f (w02 1) 0=f 0+f 1*⟨1,0⟩:=rfl
   have e1:trn false 1 f (w02 1) 1=f 0-f 1*⟨1,0⟩:=rfl
   show 0+(trn false 1 f (w02 1) 0).norm+(trn false 1 f (w02 1) 1).norm=((2:Nat):Rat)*(0+(f 0).norm+(f 1).norm)
   rw[e0,e1]
   unfold Cq.norm
   simp only[g02,i02,b03,U02,m02,q02]
   grind
 . have e0:trn false 2 f (w02 2) 0=(f 0+f 2*⟨1,0⟩)+(f 1+f 3*⟨1,0⟩)*⟨1,0⟩:=rfl
   have e1:trn false 2 f (w02 2) 1=(f 0-f 2*⟨1,0⟩)+(f 1-f 3*⟨1,0⟩)*⟨0,-1⟩:=rfl
   have e2:trn false 2 f (w02 2) 2=(f 0+f 2*⟨1,0⟩)-(f 1+f 3*⟨1,0⟩)*⟨1,0⟩:=rfl
   have e3:trn false 2 f (w02 2) 3=(f 0-f 2*⟨1,0⟩)-(f 1-f 3*⟨1,0⟩)*⟨0,-1⟩:=rfl
   show 0+(trn false 2 f (w02 2) 0).norm+(trn false 2 f (w02 2) 1).norm+(trn false 2 f (w02 2) 2).norm+(trn false 2 f (w02 2) 3).norm=((4:Nat):Rat)*(0+(f 0).norm+(f 1).norm+(f 2).norm+(f 3).norm)
   rw[e0,e1,e2,e3]
   unfold Cq.norm
   simp only[g02,i02,b03,U02,m02,q02]
   grind
def sumG(n m:Nat)(g:Nat->Nat->Rat):Rat:=sumN n λi=>sumN m (g i)
theorem q0j{n m:Nat}{f g:Nat->Nat->Rat}(h:∀i k,i<n->k<m->f i k=g i k):sumG n m f=sumG n m g :=
 M0f λi hi=>M0f λk hk=>h i k hi hk
theorem k0q{n m:Nat}(hn:n<=2)(hm:m<=2)(A:Nat->Nat->Cq):sumG (2^n) (2^m) (λi k=>(dft false n m A i k).norm)=((2^n:Nat):Rat)*(((2^m:Nat):Rat)*sumG (2^n) (2^m) (λi k=>(A i k).norm)):=by
 unfold sumG dft
 rw[K0h]
 have c:∀k,sumN (2^n) (λi=>(trn false n (λi'=>trn false m (A i') (w02 m) k) (w02 n) i).norm)=((2^n:Nat):Rat)*sumN (2^n) (λi=>(trn false m (A i) (w02 m) k).norm):=λk=>p0j hn _
 simp only[c]
 rw[A0k,K0h]
 simp only[p0j hm]
 rw[A0k]
theorem m0s{n m:Nat}{g:Nat->Nat->Rat}(h:∀i k,i<n->k<m->0<=g i k):sumG n m g=0↔∀i k,i<n->k<m->g i k=0:=by
 unfold sumG
 rw[e0f λi hi=>m0e λk hk=>h i k hi hk]
 exact⟨λe i k hi hk=>(e0f λk hk=>h i k hi hk).1 (e i hi) k hk,λe i hi=>(e0f λk hk=>h i k hi hk).2 λk hk=>e i k hi hk⟩
def ledM(K:Nat->Nat->Bool)(M:Nat->Nat->Cq)(i k:Nat):Cq:=if K i k=true then M i k else Cq.zero
theorem l0q{K:Nat->Nat->Bool}{M N:Nat->Nat->Cq}{i k:Nat}(h:K i k=true->M i k=N i k):ledM K M i k=ledM K N i k:=by
 unfold ledM
 split
 . exact h (by assumption)
 . rfl
def carA(n m:Nat)(K:Nat->Nat->Bool)(W A:Nat->Nat->Cq):Nat->Nat->Cq:=dft true n m (ledM K λi k=>dft false n m A i k*W i k)
theorem n0s{n m:Nat}(hn:n<=2)(hm:m<=2)(K:Nat->Nat->Bool)(W A:Nat->Nat->Cq){i k:Nat}(hi:i<2^n)(hk:k<2^m):dft false n m (carA n m K W A) i k=ledM K (λi k=>dft false n m A i k*W i k) i k :=
 y0o hn hm _ hi hk
theorem m0q(a:Cq):a*Cq.one=a:=Cq.ext' (by simp only[g02,Cq.one]; grind) (by simp only[i02,Cq.one]; grind)
theorem u0n{n m:Nat}(hn:n<=2)(hm:m<=2){K:Nat->Nat->Bool}{W:Nat->Nat->Cq}(A:Nat->Nat->Cq)(hW:∀i k,i<2^n->k<2^m->W i k=Cq.one) :
 sumG (2^n) (2^m) (λi k=>if K i k=true then 0 else(dft false n m A i k).norm)=((2^n:Nat):Rat)*(((2^m:Nat):Rat)*sumG (2^n) (2^m) (λi k=>(A i k-carA n m K W A i k).norm)):=by
 rw[<-k0q hn hm]
 refine q0j λi k hi hk => ?_
 rw[m0v,n0s hn hm _ _ _ hi hk]
 unfold ledM
 split
 . show _=(dft false n m A i k-dft false n m A i k*W i k).norm
   rw[hW i k hi hk,m0q]
   unfold Cq.norm
   simp only[m02,q02]
   grind
 . unfold Cq.norm
   simp only[m02,q02,Cq.zero]
   grind
section
variable {α:Type} {sz:Nat} {P:View->List Value->α->Prop}
end
theorem o0s{p:Int}(h:0<=p):0<=Int.tmod p 3/\IntKind.i64.wrap (1*2^(min (Int.toNat (Int.tmod p 3)) (IntKind.bits .i64)))=((2^J0f p:Nat):Int):=by
 have hm:=Z0e h
 have h0:0<=Int.tmod p 3:=by rw[Int.tmod_eq_emod_of_nonneg h]; omega
 refine⟨h0,?_⟩
 unfold J0f at hm ⊢
 generalize Int.toNat (Int.tmod p 3)=k at hm
 have:k=0\/k=1\/k=2:=by omega
 rcases this with rfl|rfl|rfl<;>decide
theorem L0h{r:RatV}(h:ratI r):(ratQ r).sz<=64:=by
 obtain⟨⟨a,b⟩,⟨c,d⟩,e,f⟩:=h
 have key:Rep (ratQ r) (if r.den<0 then -r.re else r.re) (if r.den<0 then -r.im else r.im) (if r.den=0 then 1 else r.den.natAbs):=by
  unfold ratQ
  split
  . rename_i h0
    have:¬r.den<0:=by omega
    rw[if_neg this,if_neg this]
    refine⟨by omega,?_,?_⟩<;>simp only[]<;>rw[Rat.div_def]<;>simp<;>grind
  . by_cases hn:r.den<0
    . rw[if_pos hn,if_pos hn]
      have hd:(r.den:Rat)≠0:=by
       intro e0
       have:=Rat.intCast_inj.1 (e0.trans Rat.intCast_zero.symm)
       omega
      have e:((r.den.natAbs:Nat):Rat) = -(r.den:Rat):=by
       have e1:((r.den.natAbs:Nat):Rat)=(((r.den.natAbs:Nat):Int):Rat):=rfl
       have e2:((r.den.natAbs:Nat):Int) = -r.den:=by omega
       rw[e1,e2,Rat.intCast_neg]
      refine⟨by omega,?_,?_⟩<;>simp only[e,Rat.intCast_neg]<;>grind
    . rw[if_neg hn,if_neg hn]
      have e:((r.den.natAbs:Nat):Rat)=(r.den:Rat):=by
       have e2:((r.den.natAbs:Nat):Int)=r.den:=by omega
       conv=>rhs; rw[<-e2]
       rfl
      exact⟨by omega,by simp only[e],by simp only[e]⟩
 refine key.sz ?_ ?_ ?_
 . exact W03 (by split<;>omega)
 . exact W03 (by split<;>omega)
 . exact W03 (by split<;>omega)
theorem n0q{sz n c:Nat}{o l:List Value}(h:C03 sz n c o l):l.length=n*sz:=by
 have h1:=h.le; have h2:=h.len; have h3:=h.take
 rw[<-h3,List.length_take,h2]
 exact Nat.min_eq_left (Nat.mul_le_mul_right _ h1)
theorem n0v{rows:List (List Cq)}(hr:Rect rows){i:Nat}(hi:i<rows.length):rows.getD i []=rowL (S00 rows) (atG Cq.zero rows i):=by
 have:=P0e hr (g08 hi [])
 rw[<-this]
 exact Y0n Cq.zero _
theorem T0d{m V:View}{g:s00}{rows:List (List Cq)}(h:X00 5 numC V g.rows rows)(hr:Rect rows)(n1:1<=rows.length)(n2:rows.length<=64)(w1:1<=S00 rows)(w2:S00 rows<=64) :
 O02 Tryz.prog p06 #[g.val] m V λv m' V'=>∃r:Sl,v=r.v/\MatX 5 numC m' V' r rows.length (S00 rows) (atG Cq.zero rows) (λb=>m b=none)/\∀b,m b≠none->m' b=m b:=by
 have b30:∀row,row∈rows->row.length<=2^30:=λrow hrw=>by rw[hr row hrw]; omega
 refine A08 m g V _ (λ_ x V'=>∃(t:Nat) (l:List Value),x.t15=t/\t<=rows.length/\C03 1 x.t5l x.t5c x.o5 l/\x.t5l=t/\m07 5 numC x.o0 V' l t (S00 rows) (atG Cq.zero rows) (λb=>m b=none)/\∀b,m b≠none->x.o0 b=m b) (λ_ x _=>rows.length-x.t15.toNat) ?_
 refine(u02 h).mono λv V1 l1 hv=>⟨_,_,hv,⟨0,[],rfl,by omega,C03.nil,rfl,m07.none _ _ _ _ _ _,λ_ _=>rfl⟩,?_⟩
 rintro⟨t5l,t5c,t15,o0,o5⟩ V2 l2 ⟨t,l,et,ht,hL,el,hR,hm⟩
 dsimp only at et hL el hR hm ⊢
 subst et; subst el
 have hll:=n0q hL
 rw[Nat.mul_one]at hll
 have back:∀b,o0 b=none->m b=none:=λb hb=>by
  cases e:m b with
  | none=>rfl
  | some cs=>have:=hm b (by rw[e]; simp); rw[hb,e]at this; simp at this
 refine⟨λhlt => ?_,λhge => ?_⟩
 . have hk:t5l<rows.length:=by have:=of_decide_eq_true hlt; omega
   refine(A0g (i:=(t5l:Int)) (X00.le numC.le (View.le_trans l1 l2) h) b30).mono λv m1 V3 l3 _ ⟨r,e,hv,q1,_⟩=>⟨r,e,hv,λb1 V4 l4 _ hb1 => ?_⟩
   obtain⟨_,b,hb,hb0,hbk⟩:=q1 ⟨by omega,by omega⟩
   rw[Int.toNat_natCast,n0v hr hk]at hb hb0 hbk
   have hne:rowL (S00 rows) (atG Cq.zero rows t5l)≠[]:=b0b (by omega) _
   have hnew:V4.has (some (Addr.mk b1 0 none)) [r.v]:=P04 (cs:=[r.v]) (j:=0) hb1 (λi v hv=>by rw[Nat.zero_add]; exact hv) rfl
   refine⟨l,_,hL,hnew,rfl,by intro v hv; simp at hv; subst hv; rfl,by unfold maxLen; omega,by omega,λc1 l3' hl3 => ?_⟩
   rw[i64w (by omega) (by omega)]
   refine⟨⟨t5l+1,_,by omega,by omega,hl3,rfl,(hR.le numC.le (View.le_trans l3 l4)).push (by omega) (by rw[List.getElem?_append_right (by omega),hll]; simp) (λi hi=>by rw[List.getElem?_append_left (by omega)]) (hb.le numC.le l4) (hb0 hne) (λi hi=>hbk i (.inl hi)) (back b (hb0 hne)),λi hi => ?_⟩,by omega⟩
   have:i≠b:=λe=>by rw[e,back b (hb0 hne)]at hi; exact hi rfl
   rw[hbk i (.inl this)]; exact hm i hi
 . have e:t5l=rows.length:=by have:=of_decide_eq_false hge; omega
   subst e
   obtain⟨o',eo⟩:=hL.split
   have hne:o5≠[]:=λe=>by rw[e]at eo; have:=congrArg List.length eo; rw[List.length_append]at this; simp at this; omega
   have hc:=hL.le
   refine⟨hne,λb2 hb2 hb2'=>⟨_,rfl,⟨rfl,hc,b2,l,o',?_,?_,hll,back b2 hb2,?_⟩,λb hb => ?_⟩⟩
   . show lstA b2 t5c=_
     unfold lstA; rw[if_neg (by omega)]
   . unfold j00; rw[if_pos rfl,eo]
   . refine((hR.there (by omega)).weaken (T:=λb=>m b=none/\b≠b2) λb hb=>⟨hb.1,λe=>hb.2 (by rw[e]; exact hb2)⟩).agree λb hb => ?_
     unfold j00; rw[if_neg hb.2]
   . have:b≠b2:=λe=>by rw[e,back b2 hb2]at hb; exact hb rfl
     show j00 o0 b2 _ b=_
     unfold j00; rw[if_neg this]; exact hm b hb
theorem n08{V:View}{g:s00}{rows:List (List Cq)}(h:X00 5 numC V g.rows rows)(hr:Rect rows)(n1:1<=rows.length)(n2:rows.length<=64)(w1:1<=S00 rows)(w2:S00 rows<=64) :
 a00 Tryz.prog p06 #[g.val] V λv V'=>∃r:Sl,v=r.v/\X00 5 numC V' r rows:=by
 refine O02.known (T0d (m:=λ_=>none) h hr n1 n2 w1 w2) λv m V' V2 l e ap ⟨r,hv,hX,_⟩=>⟨r,hv,?_⟩
 subst e
 have:=hX.known (V':=p07 m V') (numC.le (H0b ap)) (λb cs g=>K07 g)
 rw[<-k0t Cq.zero hr]at this; exact this
def rawC(rs:List RatV)(w i k:Nat):Cq:=if rs=[]then Cq.zero else ratQ (rnth rs ((i*w+k)%rs.length))
theorem B0k{rs:List RatV}(h:∀r∈rs,ratI r){i:Nat}(hi:i<rs.length):ratI (rnth rs i):=h _ (List.mem_of_getElem? (i:=i) (by unfold rnth; simp[List.getD,hi]))
theorem o0v{rs:List RatV}(h:∀r∈rs,ratI r)(w i k:Nat):(rawC rs w i k).sz<=64:=by
 unfold rawC
 split
 . exact Nat.le_trans J07 (by omega)
 . rename_i hne
   have:0<rs.length:=by cases rs with
    | nil=>exact absurd rfl hne
    | cons=>simp
   exact L0h (B0k h (Nat.mod_lt _ this))
def w0n(p:Int):Int:=IntKind.u8.wrap (Int.tdiv p 3)
theorem A0o{p:Int}(h:0<=p)(h2:p<=255):0<=w0n p:=by
 unfold w0n
 rw[Int.tdiv_eq_ediv_of_nonneg h,IntWalk.u8_in _ ⟨by omega,by omega⟩]; omega
theorem d0m{m:Nat}(h:m<=2):2^m=1\/2^m=2\/2^m=4:=by
 have:m=0\/m=1\/m=2:=by omega
 rcases this with rfl|rfl|rfl<;>simp
theorem T0t{a b m k:Nat}(L:Nat)(h:a<=64)(hm:m<=64)(hk:k<=64)(hb:b=a*m+k):Int.tmod (IntKind.i64.wrap ((IntKind.i64.wrap ((a:Int)*(m:Int)))+(k:Int))) (L:Int)=((b%L:Nat):Int):=by
 have:a*m<=64*64:=Nat.mul_le_mul h hm
 rw[<-Int.natCast_mul,i64w (n:=((a*m:Nat):Int)) (by omega) (by omega),<-Int.natCast_add,i64w (by omega) (by omega),<-hb,Int.ofNat_tmod]
theorem zrow(V:View)(b m:Nat)(h:0<m):RowR 5 numC (j00 (λ_=>none) b (List.replicate m [Value.bool false,Value.slice none 0 0,Value.bool false,Value.slice none 0 0,Value.slice none 0 0]).flatten.toArray) V ⟨some (Addr.mk b 0 none),m,m⟩ b (rowL m λ_=>Cq.zero):=by
 refine⟨by rw[k00],Nat.le_refl _,λe=>absurd e (b0b h _),λ_=>⟨rfl,_,[],by rw[List.append_nil]; unfold j00; rw[if_pos rfl],?_,?_⟩⟩
 . have e:rowL m (λ_=>Cq.zero)=List.replicate m Cq.zero:=y0d ..
   rw[e]; exact u05.zeros V m
 . rw[List.append_nil]; have:=S01.length (u05.zeros V m); rw[List.length_replicate]at this; exact this
set_option maxHeartbeats 1000000 in
theorem p0s{V:View}{s:Sl}{rs:List RatV}{p:Int}(h:m0g V s rs)(hi:∀r∈rs,ratI r)(a0:0<=p)(a1:p<=255) :
 a00 Tryz.prog G0d #[s.v,.int .u8 p] V λv V'=>∃(g:s00) (w u:Sl),v = .tuple #[g.val,w.v,u.v]/\X00 5 numC V' g.rows (matL (2^J0f p) (2^J0f (w0n p)) (rawC rs (2^J0f (w0n p)))) /\
  l02 V' w (w02 (J0f (w0n p)))/\l02 V' u (w02 (J0f p)):=by
 have hsl:s.len=rs.length:=h.len
 have a2:=A0o a0 a1
 obtain⟨t1,e1⟩:=o0s a0
 obtain⟨t2,e2⟩:=o0s a2
 have hn:=Z0e a0
 have hm:=Z0e a2
 have cn:=d0m hn
 have cm:=d0m hm
 have k1:=H0h hn
 have k2:=H0h hm
 obtain⟨n,en⟩:∃n,n=2^J0f p:=⟨_,rfl⟩
 obtain⟨m,em⟩:∃m,m=2^J0f (w0n p):=⟨_,rfl⟩
 rw[<-en]at e1 cn k1 ⊢
 rw[<-em]at e2 cm k2 ⊢
 refine J0c s p V _
  (λ_ x V'=>∃t:Nat,x.t29=t/\t<=n/\x.o26.length=n/\m07 5 numC x.o0 V' x.o26 t m (rawC rs m) (λ_=>True)) (λ_ x _=>n-x.t29.toNat)
  (λc x V'=>∃(t k b:Nat) (o0:View),c.t29=t/\t<n/\x.t42=k/\k<=m/\c.o26.length=n/\c.o26[t]?=some (Sl.mk (some (Addr.mk b 0 none)) m m).v/\m07 5 numC o0 V' c.o26 t m (rawC rs m) (λ_=>True)/\o0 b=none/\(∀i,i≠b->x.o0 i=o0 i) /\
    RowR 5 numC x.o0 V' ⟨some (Addr.mk b 0 none),m,m⟩ b (rowL m λj=>if j<k then rawC rs m t j else Cq.zero)) (λ_ x _=>m-x.t42.toNat) ?_
 have e2':IntKind.i64.wrap (1*2^(min (Int.toNat (Int.tmod (IntKind.u8.wrap (Int.tdiv p 3)) 3)) (IntKind.bits .i64)))=(m:Int):=e2
 rw[e1,e2',Int.toNat_natCast,Int.toNat_natCast]
 refine⟨t1,t2,⟨by omega,by omega,by omega,by omega⟩,⟨0,rfl,by omega,by rw[W0p]; simp,m07.none _ _ _ _ _ _⟩,?_⟩
 rintro⟨t29,o0,o4,o26⟩ V1 l1 ⟨t,et,ht,hol,hR⟩
 dsimp only at et hol hR ⊢
 subst et
 refine⟨λhlt => ?_,λhge => ?_⟩
 . have hk:t<n:=by have:=of_decide_eq_true hlt; omega
   have e0:(0+Int.toNat (t:Int)*1)=t:=by omega
   refine⟨⟨by omega,by omega,by omega,by omega⟩,λb1 hb1 hb1'=>⟨⟨by omega,by omega⟩,by rw[e0,hol]; omega,⟨by omega,by omega⟩,⟨some (Addr.mk b1 0 none),m,m⟩,by rw[e0,List.getElem?_set_self (by omega)]; rfl,?_,?_⟩⟩
   . refine⟨t,0,b1,o0,rfl,hk,rfl,by omega,by rw[List.length_set]; exact hol,by rw[e0,List.getElem?_set_self (by omega)]; rfl,hR.list (λi hi=>by rw[e0,List.getElem?_set_ne (by omega)]),hb1,λi hi=>by show j00 o0 b1 _ i=_; unfold j00; rw[if_neg hi],?_⟩
     have hz:=zrow V1 b1 m (by omega)
     rw[x03 (g:=λ_=>Cq.zero) λj _=>by rw[if_neg (by omega)]]
     refine hz.agree λ_ => ?_
     show j00 o0 b1 _ b1=j00 _ b1 _ b1
     unfold j00; rw[if_pos rfl,if_pos rfl]
   rintro⟨t42,o0'⟩ V2 l2 ⟨t',k,b,o1,et,htn,ek,hkm,hcl,hcs,hRX,hob,hagr,hrow⟩
   dsimp only at et ek hcl hcs hRX hagr hrow ⊢
   obtain rfl:t'=t:=by omega
   subst ek
   rw[e0]at hcs
   rw[List.getElem?_set_self (by omega)]at hcs
   have hcs':=Option.some.inj hcs
   obtain rfl:b1=b:=by
    have:Value.slice (some (Addr.mk b1 0 none)) m m=Value.slice (some (Addr.mk b 0 none)) m m:=hcs'
    simp at this; exact this
   refine⟨λhlt2 => ?_,λhge2 => ?_⟩
   . have hk2:k<m:=by have:=of_decide_eq_true hlt2; omega
     have stepR:∀ {V':View} {y:NumV},View.le V2 V'->l01 V' y (rawC rs m t' k)->∃(l:List Value),Option.map (λq=>Addr.add q (Int.toNat (k:Int)*5)) (some (Addr.mk b1 0 none))=some (Addr.mk b1 (k*5) none)/\o0' b1=some l.toArray/\k*5+5<=l.length /\
      RowR 5 numC (j00 o0' b1 (setL l (k*5) y.val.cells.toList).toArray) V' ⟨some (Addr.mk b1 0 none),m,m⟩ b1 (rowL m λj=>if j<k+1 then rawC rs m t' j else Cq.zero):=λ{V' y} hle hy=>by
      obtain⟨l,q1,q2,q3,q4⟩:=(hrow.le numC.le hle).put (k:=k) (by rw[k00]; exact hk2) (y:=y.val.cells.toList) rfl ⟨y,rfl,hy⟩
      rw[Int.toNat_natCast]
      refine⟨l,q1,q2,q3,?_⟩
      rw[x0d]at q4
      rw[x03 (g:=λj=>if j=k then rawC rs m t' k else if j<k then rawC rs m t' j else Cq.zero) λj _ => ?_]
      . exact q4
      . by_cases c:j=k
        . subst c; rw[if_pos (by omega),if_pos rfl]
        . rw[if_neg c]
          by_cases c2:j<k
          . rw[if_pos c2,if_pos (by omega)]
          . rw[if_neg c2,if_neg (by omega)]
     rw[i64w (n:=(k:Int)+1) (by omega) (by omega)]
     refine⟨λhp => ?_,λhp => ?_⟩
     . have hp:0<rs.length:=by have:=of_decide_eq_true hp; omega
       have hne:rs≠[]:=λe=>by rw[e]at hp; simp at hp
       have hlt3:(t'*m+k)%rs.length<rs.length:=Nat.mod_lt _ hp
       rw[hsl,T0t (b:=t'*m+k) rs.length (by omega) (by omega) (by omega) rfl]
       obtain⟨d1,x,hx,_,hh,hs⟩:=y00.get (h.le (View.le_trans l1 l2)) (t:=(((t'*m+k)%rs.length:Nat):Int)) (by omega) (z:=rnth rs ((t'*m+k)%rs.length)) (by rw[Int.toNat_natCast]; unfold rnth; simp[List.getD,hlt3])
       rw[hsl]at d1
       have hx:x=(rnth rs ((t'*m+k)%rs.length)).val.cells.toList:=hx
       subst hx
       refine⟨⟨by omega,by omega⟩,⟨some (Addr.mk b1 0 none),m,m⟩,by rw[e0,List.getElem?_set_self (by omega)]; rfl,by omega,d1,_,.inr hh,hs,(n0g (B0k hi hlt3)).mono λv V3 l3 ⟨y,hv,hy⟩=>⟨y,hv,⟨by omega,by show(k:Int)<((m:Nat):Int); omega,rfl⟩,?_⟩⟩
       have hyr:l01 V3 y (rawC rs m t' k):=by unfold rawC; rw[if_neg hne]; exact hy
       obtain⟨l,q1,q2,q3,q4⟩:=stepR l3 hyr
       refine⟨b1,k*5,l,q1,q2,q3,⟨t',k+1,b1,o1,rfl,htn,by omega,by omega,hcl,by rw[e0,List.getElem?_set_self (by omega)]; rfl,hRX.le numC.le l3,hob,λi hi => ?_,q4⟩,by omega⟩
       show j00 o0' b1 _ i=_
       unfold j00; rw[if_neg hi]; exact hagr i hi
     . have hp:rs=[]:=List.length_eq_zero_iff.1 (by have:=of_decide_eq_false hp; omega)
       refine⟨⟨t',k+1,b1,o1,rfl,htn,by omega,by omega,hcl,by rw[e0,List.getElem?_set_self (by omega)]; rfl,hRX,hob,hagr,?_⟩,by omega⟩
       rw[x03 (g:=λj=>if j<k then rawC rs m t' j else Cq.zero) λj _ => ?_]
       . exact hrow
       . have:rawC rs m t' j=Cq.zero:=by unfold rawC; rw[if_pos hp]
         rw[this]; split<;>split<;>rfl
   . have e:k=m:=by have:=of_decide_eq_false hge2; omega
     subst e
     rw[i64w (by omega) (by omega)]
     refine⟨⟨t'+1,by omega,by omega,hcl,hRX.push (r:=⟨some (Addr.mk b1 0 none),k,k⟩) (by omega) (by rw[e0,List.getElem?_set_self (by omega)]; rfl) (λi _=>rfl) ?_ hob hagr trivial⟩,by omega⟩
     rw[x03 (g:=λj=>if j<k then rawC rs k t' j else Cq.zero) λj hj=>by rw[if_pos hj]]
     exact hrow
 . have e:t=n:=by have:=of_decide_eq_false hge; omega
   subst e
   refine⟨by decide,λV4 l4 m4 b4 V5 l5 hb4 => ?_⟩
   have hG:X00 5 numC V5 ⟨some (Addr.mk b4 0 none),t,t⟩ (matL t m (rawC rs m)):=hR.knownL numC.le hol (View.le_trans l4 l5) (λb cs g=>l5 _ _ (m4 _ _ g)) hb4
   refine(o07 hG).mono λv V6 l6 ⟨g,hv,hg⟩=>⟨g,_,hv,?_⟩
   rw[f0d _ (by omega) (by omega) (by omega) (by omega)]at hg
   refine(w09 cm).mono λv V7 l7 ⟨w,hv,h7⟩=>⟨w,_,hv,?_⟩
   refine(w09 cn).mono λv V8 l8 ⟨u,hv,h8⟩=>⟨u,_,hv,g,w,u,rfl,X00.le numC.le (View.le_trans l7 l8) hg,?_,?_⟩
   . rw[<-k2]; exact h7.le l8
   . rw[<-k1]; exact h8
