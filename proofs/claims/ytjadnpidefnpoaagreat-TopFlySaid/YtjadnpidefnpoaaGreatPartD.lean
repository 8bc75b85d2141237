/- Part. -/
import Derived.Test.YtjadnpidefnpoaaGreatPartC
import Derived.Deep.Slices
namespace Go.Proofs.YtjadnpidefnpoaaGreat
open Go Go.Vc Go.Proofs
open Go.Proofs.Tryz (prog)
open Go.IntKind (i64 u64 u32 u8)
theorem E0i{V:View}{s t:Sl}{a b:Nat}(hs:x02 V s a)(ht:x02 V t b)(ha:wn a<=2^43)(hb:wn b<=2^43) :
 a00 prog U0w #[s.v,t.v] V λv V'=>∃r:Sl,v=r.v/\x02 V' r (Nat.gcd a b):=by
 refine m0v s t V _ (λ_ x V'=>∃a' b',x02 V' x.t0 a'/\x02 V' x.t1 b'/\wn a'<=2^43/\wn b'<=2^43/\Nat.gcd a' b'=Nat.gcd a b) (λ_ x V'=>l0x V' x.t1) ⟨⟨a,b,hs,ht,ha,hb,rfl⟩,?_⟩;rintro⟨x,y⟩ V1 l1 ⟨a',b',hx,hy,wa,wb,hg⟩;simp only at hx hy ⊢;have hyl:=hy.len;refine⟨λhp => ?_,λhp => ?_⟩
 . simp only[gt_iff_lt,Af]at hp;have hb0:b'≠0:=λe=>by rw[<-hy.len_zero]at e; omega
   refine(Q09 hx hy wa hb0).mono λv V2 l2 ⟨q,r,hv,hq,hr⟩=>⟨q,r,hv,?_⟩;have hlt:a'%b'<b':=Dq _ (by omega);have hwr:wn (a'%b')<=wn b':=a0g (Fj hlt);refine⟨⟨b',a'%b',hy.le l2,hr,wb,by omega,?_⟩,?_⟩
   . rw[Nat.gcd_comm,<-Nat.gcd_rec,Nat.gcd_comm]; exact hg
   rw[d0q hr,d0q hy]; exact hlt
 simp only[gt_iff_lt,Ac]at hp;have hb0:b'=0:=hy.len_zero.1 (by omega);subst hb0;rw[Nat.gcd_zero_right]at hg;exact⟨x,rfl,by rw[<-hg]; exact hx⟩
theorem s04{V:View}{s:Sl}{n:Nat}(neg:Bool)(h:x02 V s n) :
 a00 prog c0d #[.bool neg,s.v] V λv V'=>∃r:WhV,v=r.val/\d07 V' r (if neg=true then -(n:Int)else n):=by
 have hl:=h.len_zero;refine w0l neg s V _ ⟨λhn=>⟨_,rfl,?_,?_⟩,λhn=>⟨_,rfl,?_,?_⟩⟩
 . rw[if_pos hn]; simp only[gt_iff_lt,decide_eq_decide]; omega
 . rw[if_pos hn]; simpa using h
 . rw[if_neg (by simp[hn])]; symm; simp only[Ac]; omega
 rw[if_neg (by simp[hn])]; simpa using h
theorem L0a{V:View}{n:Int}(h0 : -9223372036854775808<=n)(h1:n<=9223372036854775807) :
 a00 prog P0u #[.int .i64 n] V λv V'=>∃r:WhV,v=r.val/\d07 V' r n:=by
 refine c0s n V _ ⟨λhn => ?_,λhn => ?_⟩
 . simp only[Af]at hn;have e:u64.wrap (0-u64.wrap n) = -n:=by rw[u64m,u64m]; omega
   rw[e];refine(f08 (by omega) (by omega)).mono λv V1 _ ⟨r,hv,hr⟩=>⟨r,hv,_,rfl,by simp[hn],?_⟩;have e2:n.natAbs=(-n).toNat:=by omega
   rw[e2]; exact hr
 simp only[Ac]at hn;rw[u64w (by omega) (by omega)];refine(f08 (by omega) (by omega)).mono λv V1 _ ⟨r,hv,hr⟩=>⟨r,hv,_,rfl,by simp[hn],?_⟩;have e2:n.natAbs=n.toNat:=by omega
 rw[e2]; exact hr
theorem t04{V:View}{x:WhV}{a:Int}(h:d07 V x a) :
 a00 prog C0n #[x.val] V λv V'=>∃r:WhV,v=r.val/\d07 V' r (-a):=by
 refine x0l x V _ ((s04 (!x.neg) h.2).mono λv V1 _ ⟨r,hv,hr⟩=>⟨r,hv,r,rfl,?_⟩);have e:(if(!x.neg)=true then -(a.natAbs:Int)else(a.natAbs:Int)) = -a:=by
  rw[h.1]; simp only[De,Ac]; split<;>omega
 rw[e]at hr; exact hr
theorem J06{V:View}{x y:WhV}{a b:Int}(hx:d07 V x a)(hy:d07 V y b)(ha:wn a.natAbs<=2^43)(hb:wn b.natAbs<=2^43) :
 a00 prog s0p #[x.val,y.val] V λv V'=>∃r:WhV,v=r.val/\d07 V' r (a+b):=by
 have h1:=hx.1;have h2:=hy.1;refine J0n x y V _ ⟨λhs => ?_,λhs => ?_⟩
 . refine(C0q hx.2 hy.2 (by omega) (by omega)).mono λv V1 l1 ⟨r,hv,hr⟩=>⟨r,hv,?_⟩;refine(s04 x.neg hr).mono λv V2 _ ⟨w,hv,hw⟩=>⟨w,hv,w,rfl,?_⟩;have e:(if x.neg=true then -((a.natAbs+b.natAbs:Nat):Int)else((a.natAbs+b.natAbs:Nat):Int))=a+b:=by
    rw[h1,h2]at hs; rw[h1];by_cases p:a<0<;>by_cases q:b<0<;>simp[p,q]at hs ⊢<;>omega
   rw[e]at hw; exact hw
 refine(O09 hx.2 hy.2 (by omega)).mono λv V1 l1 hv=>⟨_,hv,λhc => ?_,λhc => ?_⟩
 . have hc:b.natAbs<=a.natAbs:=by
     rcases Ad a.natAbs b.natAbs with h|h
     . rw[if_pos h]at hc; simp at hc
     exact h
   refine(D0i (hx.2.le l1) (hy.2.le l1) (by omega) hc).mono λv V2 l2 ⟨r,hv,hr⟩=>⟨r,hv,?_⟩;refine(s04 x.neg hr).mono λv V3 _ ⟨w,hv,hw⟩=>⟨w,hv,w,rfl,?_⟩;have e:(if x.neg=true then -((a.natAbs-b.natAbs:Nat):Int)else((a.natAbs-b.natAbs:Nat):Int))=a+b:=by
    rw[h1,h2]at hs; rw[h1];by_cases p:a<0<;>by_cases q:b<0<;>simp[p,q]at hs ⊢<;>omega
   rw[e]at hw; exact hw
 have hc:a.natAbs<=b.natAbs:=by
   rcases Ad b.natAbs a.natAbs with h|h
   . rw[if_neg (by omega),if_neg (by omega)]at hc; simp at hc
   exact h
 refine(D0i (hy.2.le l1) (hx.2.le l1) (by omega) hc).mono λv V2 l2 ⟨r,hv,hr⟩=>⟨r,hv,?_⟩;refine(s04 y.neg hr).mono λv V3 _ ⟨w,hv,hw⟩=>⟨w,hv,w,rfl,?_⟩;have e:(if y.neg=true then -((b.natAbs-a.natAbs:Nat):Int)else((b.natAbs-a.natAbs:Nat):Int))=a+b:=by
  rw[h1,h2]at hs; rw[h2];by_cases p:a<0<;>by_cases q:b<0<;>simp[p,q]at hs ⊢<;>omega
 rw[e]at hw; exact hw
theorem O10(x y a b:Int)(hx:x=if a<0 then -1 else 1)(hy:y=if b<0 then -1 else 1):a*b=x*y*(a.natAbs*b.natAbs:Nat):=by
 have ha:a=x*a.natAbs:=by rw[hx]; split<;>omega
 have hb:b=y*b.natAbs:=by rw[hy]; split<;>omega
 rw[Cc]
 conv=>lhs; rw[ha,hb]
 grind
theorem W05{V:View}{x y:WhV}{a b:Int}(hx:d07 V x a)(hy:d07 V y b)(ha:wn a.natAbs<=2^43)(hb:wn b.natAbs<=2^43) :
 a00 prog B0n #[x.val,y.val] V λv V'=>∃r:WhV,v=r.val/\d07 V' r (a*b):=by
 refine y0l x y V _ ((P09 hx.2 hy.2 (by omega) (by omega)).mono λv V1 l1 ⟨r,hv,hr⟩=>⟨r,hv,?_⟩);refine(s04 (!(x.neg==y.neg)) hr).mono λv V2 _ ⟨w,hv,hw⟩=>⟨w,hv,w,rfl,?_⟩;have e:(if(!(x.neg==y.neg))=true then -((a.natAbs*b.natAbs:Nat):Int)else((a.natAbs*b.natAbs:Nat):Int))=a*b:=by
  rw[O10 _ _ a b rfl rfl,hx.1,hy.1];by_cases p:a<0<;>by_cases q:b<0<;>simp[p,q]
 rw[e]at hw; exact hw
theorem M02{V:View}{x:WhV}{s:Sl}{a:Int}{n:Nat}(hx:d07 V x a)(hs:x02 V s n)(ha:wn a.natAbs<=2^43)(hb:wn n<=2^43) :
 a00 prog q0l #[x.val,s.v] V λv V'=>∃r:WhV,v=r.val/\d07 V' r (a*n):=by
 refine Q0j x s V _ ((P09 hx.2 hs (by omega) (by omega)).mono λv V1 l1 ⟨r,hv,hr⟩=>⟨r,hv,?_⟩);refine(s04 x.neg hr).mono λv V2 _ ⟨w,hv,hw⟩=>⟨w,hv,w,rfl,?_⟩;have e:(if x.neg=true then -((a.natAbs*n:Nat):Int)else((a.natAbs*n:Nat):Int))=a*n:=by
  conv=>rhs; rw[hx.val]
  rw[Cc]; split
  . rw[Int.neg_mul]
  rfl
 rw[e]at hw; exact hw
theorem n09{V:View}{x y:WhV}{a b:Int}(hx:d07 V x a)(hy:d07 V y b)(ha:wn a.natAbs<=2^43)(hb:wn b.natAbs<=2^43) :
 a00 prog G0r #[x.val,y.val] V λv _=>v = .int .i64 (cmpZ a b):=by
 refine J0p x y V _ ((t04 hy).mono λv V1 l1 ⟨r,hv,hr⟩=>⟨r,hv,?_⟩);refine(J06 (hx.le l1) hr ha (by rw[Cn]; exact hb)).mono λv V2 l2 ⟨w,hv,hw⟩=>⟨w,hv,λh => ?_,λh => ?_⟩
 . have:a + -b<0:=by have:=hw.1; rw[h]at this; simpa using this
   rw[t0x (by omega)]
 have h1:¬a + -b<0:=by have:=hw.1; rw[h]at this; simpa using this
 have h2:=hw.2.len_zero;by_cases e:a=b
 . have:w.mag.len=0:=h2.2 (by omega);rw[u0x e,this]; rfl
 have:w.mag.len≠0:=λh=>by have:=h2.1 h; omega
 rw[w0x (by omega)];congr 1; split<;>omega
theorem A05{V:View}{x y:WhV}{s:Sl}{z:Cq}{a b:Int}{d:Nat}(hx:d07 V x a)(hy:d07 V y b)(hs:x02 V s d)(hz:Rep z a b d)(ha:wn a.natAbs<=2^43)(hb:wn b.natAbs<=2^43)(hd:wn d<=2^43) :
 a00 prog O0u #[x.val,y.val,s.v] V λv V'=>∃r:NumV,v=r.val/\Q00 V' r z:=by
 obtain⟨e1,e2,e3⟩:=hz.eqs;have hp:=w0t a b hz.pos;have d1:=e0k a b d;have d2:=f0k a b d;have d3:=i0q a b d;refine d0s x y s V _ ((E0i hx.2 hy.2 ha hb).mono λv V1 l1 ⟨r1,hv,h1⟩=>⟨r1,hv,?_⟩);have hw1:wn (Nat.gcd a.natAbs b.natAbs)<=2^43:=by
  rcases Ap a.natAbs with h|h
  . rw[h,Nat.gcd_zero_left]; exact hb
  exact Ah (a0g (Nat.le_of_dvd h (Fy _ _))) ha
 refine(E0i h1 (hs.le l1) hw1 hd).mono λv V2 l2 ⟨r2,hv,h2⟩=>⟨r2,hv,?_⟩;have hg:Nat.gcd (Nat.gcd a.natAbs b.natAbs) d=gcd3 a b d:=rfl;rw[hg]at h2;refine(A0e h2).mono λv V3 l3 hv=>⟨_,hv,λhn => ?_,λhn => ?_⟩
 . have l13:=Gx l1 (Gx l2 l3);refine(Q09 (hx.2.le l13) (h2.le l3) ha (by omega)).mono λv V4 l4 ⟨q1,m1,hv,hq1,_⟩=>⟨q1,m1,hv,?_⟩;refine(Q09 (hy.2.le (Gx l13 l4)) (h2.le (Gx l3 l4)) hb (by omega)).mono λv V5 l5 ⟨q2,m2,hv,hq2,_⟩=>⟨q2,m2,hv,?_⟩;have l45:=Gx l4 l5;refine(Q09 (hs.le (Gx l13 l45)) (h2.le (Gx l3 l45)) hd (by omega)).mono λv V6 l6 ⟨q3,m3,hv,hq3,_⟩=>⟨q3,m3,hv,?_⟩;have f1:d07 V6 (WhV.mk x.neg q1) z.A:=⟨by rw[e1,g0k d1 hp]; exact hx.1,by rw[e1,Q0a d1]; exact hq1.le (Gx l5 l6)⟩;have f2:d07 V6 (WhV.mk y.neg q2) z.B:=⟨by rw[e2,g0k d2 hp]; exact hy.1,by rw[e2,Q0a d2]; exact hq2.le l6⟩;refine(A0e hq3).mono λv V7 l7 hv=>⟨_,hv,λh=>⟨_,rfl,f1.le l7,f2.le l7,?_⟩,λh=>⟨_,rfl,f1.le l7,f2.le l7,?_⟩⟩
   . simp only[Af]at h;rw[e3,if_pos h]; exact x02.zero V7
   simp only[Ac]at h;rw[e3,if_neg h]; exact hq3.le l7
 simp only[Bool.not_eq_false',Af]at hn;rw[hn]at e1 e2 e3;simp only[Int.natCast_one,Int.ediv_one]at e1 e2;rw[Nat.div_one]at e3;have l13:=Gx l1 (Gx l2 l3);refine(A0e (hs.le l13)).mono λv V7 l7 hv=>⟨_,hv,λh=>⟨_,rfl,?_,?_,?_⟩,λh=>⟨_,rfl,?_,?_,?_⟩⟩
 . rw[e1]; exact hx.le (Gx l13 l7)
 . rw[e2]; exact hy.le (Gx l13 l7)
 . simp only[Af]at h;rw[e3,if_pos h]; exact x02.zero V7
 . rw[e1]; exact hx.le (Gx l13 l7)
 . rw[e2]; exact hy.le (Gx l13 l7)
 simp only[Ac]at h;rw[e3,if_neg h]; exact hs.le (Gx l13 l7)
theorem d03{V:View}{x:NumV}{z:Cq}(h:Q00 V x z):a00 prog Q0w #[x.val] V λv V'=>∃r:Sl,v=r.v/\x02 V' r z.D:=by
 have hu:=h.under;have hl:=hu.len_zero;have hD:=z.D_pos;refine n0v x V _ ⟨λh0 => ?_,λh0 => ?_⟩
 . have h0:x.under.len=0:=by have:(x.under.len:Int)=0:=(by simpa using h0); omega
   intro b V1 l1 _ hb;have hz:=hl.1 h0;have h1:z.D=1:=by split at hz<;>omega
   refine⟨_,rfl,?_⟩;rw[h1];have:dig 1=[1]:=by rw[T07 (by omega)]; simp[n06]
   unfold x02; rw[this];exact Ha (by rw[hb]; rfl) rfl (An9 _) (by intro d hd; simp at hd; omega)
 have h0:x.under.len≠0:=by have:¬(x.under.len:Int)=0:=(by simpa using h0); omega
 refine⟨_,rfl,?_⟩;have hz:¬(if z.D=1 then 0 else z.D)=0:=λe=>h0 (hl.2 e)
 split at hz
 . omega
 rename_i h1; rw[if_neg h1]at hu; exact hu
theorem a02{V:View}{n:Int}(h0 : -9223372036854775808<=n)(h1:n<=9223372036854775807) :
 a00 prog o0p #[.int .i64 n] V λv V'=>∃r:NumV,v=r.val/\Q00 V' r ⟨(n:Rat),0⟩:=by
 obtain⟨e1,e2,e3⟩:=M0i n;refine o0v n V _ ((L0a h0 h1).mono λv V1 _ ⟨r,hv,hr⟩=>⟨r,hv,_,rfl,by rw[e1]; exact hr,by rw[e2]; exact d07.zero _,by rw[e3]; exact x02.zero _⟩)
theorem wn64{n:Nat}(h:n<=18446744073709551615):wn n<=2^43:=by
 have:wn n<=2:=A07 (by omega);omega
theorem a0c{V:View}{p q d:Int}(p0 : -9223372036854775808<=p)(p1:p<=9223372036854775807)(q0 : -9223372036854775808<=q)(q1:q<=9223372036854775807)(d0 : -9223372036854775808<=d)(d1:d<=9223372036854775807)(hd:d≠0) :
 a00 prog O0w #[.int .i64 p,.int .i64 q,.int .i64 d] V λv V'=>∃r:NumV,v = .tuple #[r.val,.int .i64 0]/\Q00 V' r ⟨(p:Rat) / (d:Rat),(q:Rat) / (d:Rat)⟩:=by
 refine p0v p q d V _ ⟨λh => ?_,λ_ => ?_⟩
 . exact absurd (by simpa using h) hd
 refine(L0a p0 p1).mono λv V1 l1 ⟨a,hv,ha⟩=>⟨a,hv,?_⟩;refine(L0a q0 q1).mono λv V2 l2 ⟨b,hv,hb⟩=>⟨b,hv,?_⟩;refine(L0a d0 d1).mono λv V3 l3 ⟨c,hv,hc⟩=>⟨c,hv,λhn => ?_,λhn => ?_⟩
 . have hneg:d<0:=by have:=hc.1; rw[hn]at this; simpa using this.symm
   refine(t04 (ha.le (Gx l2 l3))).mono λv V4 l4 ⟨a',hv,ha'⟩=>⟨a',hv,?_⟩;refine(t04 (hb.le (Gx l3 l4))).mono λv V5 l5 ⟨b',hv,hb'⟩=>⟨b',hv,?_⟩;refine(A05 (ha'.le l5) hb' (hc.2.le (Gx l4 l5)) ?_ (wn64 (by omega)) (wn64 (by omega)) (wn64 (by omega))).mono λv V6 l6 ⟨r,hv,hr⟩=>⟨r,hv,r,rfl,hr⟩;have e:((d.natAbs:Nat):Rat) = -(d:Rat):=by
    have:(d.natAbs:Int) = -d:=by omega
    rw[<-Fi,this]; push_cast; rfl
   refine⟨by omega,?_,?_⟩<;>(simp only[e]; push_cast; rw[Bm,Bm]; grind)
 have hpos:¬d<0:=by have:=hc.1; rw[hn]at this; simpa using this.symm
 refine(A05 (ha.le (Gx l2 l3)) (hb.le l3) hc.2 ?_ (wn64 (by omega)) (wn64 (by omega)) (wn64 (by omega))).mono λv V6 l6 ⟨r,hv,hr⟩=>⟨r,hv,r,rfl,hr⟩;have e:((d.natAbs:Nat):Rat)=(d:Rat):=by
  have:(d.natAbs:Int)=d:=by omega
  rw[<-Fi,this]
 refine⟨by omega,?_,?_⟩<;>simp only[e]
theorem Cq.wA{z:Cq}(h:z.sz<=2^40):wn z.A.natAbs<=2^35:=j0k (by have:=z.szA; omega)
theorem Cq.wB{z:Cq}(h:z.sz<=2^40):wn z.B.natAbs<=2^35:=j0k (by have:=z.szB; omega)
theorem Cq.wD{z:Cq}(h:z.sz<=2^40):wn z.D<=2^35:=j0k (by have:=z.szD; omega)
theorem U07{a b:Int}{k:Nat}(ha:wn a.natAbs<=k)(hb:wn b.natAbs<=k):wn (a*b).natAbs<=2*k:=by
 rw[Dn]; have:=j0e a.natAbs b.natAbs; omega
theorem z0k{a b:Int}{k:Nat}(ha:wn a.natAbs<=k)(hb:wn b.natAbs<=k):wn (a+b).natAbs<=k+1:=by
 have:=a0g (Int.natAbs_add_le a b); have:=j0x a.natAbs b.natAbs; omega
theorem a13{a:Int}{k:Nat}(ha:wn a.natAbs<=k):wn (-a).natAbs<=k:=by rw[Cn]; exact ha
theorem J03{V:View}{x y:NumV}{z w:Cq}(hx:Q00 V x z)(hy:Q00 V y w)(hz:z.sz<=2^40)(hw:w.sz<=2^40) :
 a00 prog L0w #[x.val,y.val] V λv V'=>∃r:NumV,v=r.val/\Q00 V' r (z+w):=by
 have zA:=Cq.wA hz; have zB:=Cq.wB hz; have zD:=Cq.wD hz;have wA:=Cq.wA hw; have wB:=Cq.wB hw; have wD:=Cq.wD hw;have zD':wn (z.D:Int).natAbs<=2^35:=zD;have wD':wn (w.D:Int).natAbs<=2^35:=wD;have s1:=U07 zA wD'; have s2:=U07 wA zD'; have s3:=U07 zB wD'; have s4:=U07 wB zD';have s5:=z0k s1 s2; have s6:=z0k s3 s4;have s7:=j0e z.D w.D;refine q0v x y V _ ((d03 hx).mono λv V1 l1 ⟨r1,hv,h1⟩=>⟨r1,hv,?_⟩);replace hx:=hx.le l1; replace hy:=hy.le l1;refine(d03 hy).mono λv V2 l2 ⟨r2,hv,h2⟩=>⟨r2,hv,?_⟩;replace hx:=hx.le l2; replace hy:=hy.le l2; replace h1:=h1.le l2;refine(M02 hx.re h2 (by omega) (by omega)).mono λv V3 l3 ⟨r3,hv,h3⟩=>⟨r3,hv,?_⟩;replace hx:=hx.le l3; replace hy:=hy.le l3; replace h1:=h1.le l3; replace h2:=h2.le l3;refine(M02 hy.re h1 (by omega) (by omega)).mono λv V4 l4 ⟨r4,hv,h4⟩=>⟨r4,hv,?_⟩;replace hx:=hx.le l4; replace hy:=hy.le l4; replace h1:=h1.le l4; replace h2:=h2.le l4; replace h3:=h3.le l4;refine(J06 h3 h4 (by omega) (by omega)).mono λv V5 l5 ⟨r5,hv,h5⟩=>⟨r5,hv,?_⟩;replace hx:=hx.le l5; replace hy:=hy.le l5; replace h1:=h1.le l5; replace h2:=h2.le l5;refine(M02 hx.im h2 (by omega) (by omega)).mono λv V6 l6 ⟨r6,hv,h6⟩=>⟨r6,hv,?_⟩;replace hy:=hy.le l6; replace h1:=h1.le l6; replace h2:=h2.le l6; replace h5:=h5.le l6;refine(M02 hy.im h1 (by omega) (by omega)).mono λv V7 l7 ⟨r7,hv,h7⟩=>⟨r7,hv,?_⟩;replace h1:=h1.le l7; replace h2:=h2.le l7; replace h5:=h5.le l7; replace h6:=h6.le l7;refine(J06 h6 h7 (by omega) (by omega)).mono λv V8 l8 ⟨r8,hv,h8⟩=>⟨r8,hv,?_⟩;replace h1:=h1.le l8; replace h2:=h2.le l8; replace h5:=h5.le l8;refine(P09 h1 h2 (by omega) (by omega)).mono λv V9 l9 ⟨r9,hv,h9⟩=>⟨r9,hv,?_⟩;exact(A05 (h5.le l9) (h8.le l9) h9 (z.canon.rep.add w.canon.rep) (by omega) (by omega) (by omega)).mono λv V10 _ ⟨r,hv,hr⟩=>⟨r,hv,r,rfl,hr⟩
theorem E0e{V:View}{x:NumV}{z:Cq}(hx:Q00 V x z):a00 prog N0w #[x.val] V λv V'=>∃r:NumV,v=r.val/\Q00 V' r (-z):=by
 obtain⟨e1,e2,e3⟩:=z.neg_eqs;refine s0v x V _ ((t04 hx.re).mono λv V1 l1 ⟨r1,hv,h1⟩=>⟨r1,hv,?_⟩);exact(t04 (hx.im.le l1)).mono λv V2 l2 ⟨r2,hv,h2⟩=>⟨r2,hv,_,rfl,by rw[e1]; exact h1.le l2,by rw[e2]; exact h2,by rw[e3]; exact hx.under.le (Gx l1 l2)⟩
theorem Y0g{V:View}{x:NumV}{z:Cq}(hx:Q00 V x z):a00 prog c0v #[x.val] V λv V'=>∃r:NumV,v=r.val/\Q00 V' r z.conj:=by
 obtain⟨e1,e2,e3⟩:=z.conj_eqs;exact g0s x V _ ((t04 hx.im).mono λv V1 l1 ⟨r1,hv,h1⟩=>⟨r1,hv,_,rfl,by rw[e1]; exact hx.re.le l1,by rw[e2]; exact h1,by rw[e3]; exact hx.under.le l1⟩)
theorem D07{V:View}{x y:NumV}{z w:Cq}(hx:Q00 V x z)(hy:Q00 V y w)(hz:z.sz<=2^40)(hw:w.sz<=2^40) :
 a00 prog N0j #[x.val,y.val] V λv V'=>∃r:NumV,v=r.val/\Q00 V' r (z-w):=by
 refine t0v x y V _ ((E0e hy).mono λv V1 l1 ⟨r1,hv,h1⟩=>⟨r1,hv,?_⟩);rw[o0r];exact(J03 (hx.le l1) h1 hz (by rw[i0l]; exact hw)).mono λv V2 _ ⟨r,hv,hr⟩=>⟨r,hv,r,rfl,hr⟩
theorem m03{V:View}{x y:NumV}{z w:Cq}(hx:Q00 V x z)(hy:Q00 V y w)(hz:z.sz<=2^40)(hw:w.sz<=2^40) :
 a00 prog M0j #[x.val,y.val] V λv V'=>∃r:NumV,v=r.val/\Q00 V' r (z*w):=by
 have zA:=Cq.wA hz; have zB:=Cq.wB hz; have zD:=Cq.wD hz;have wA:=Cq.wA hw; have wB:=Cq.wB hw; have wD:=Cq.wD hw;have s1:=U07 zA wA; have s2:=U07 zB wB; have s2':=a13 s2; have s3:=U07 zA wB; have s4:=U07 zB wA;have s5:=z0k s1 s2'; have s6:=z0k s3 s4;have s7:=j0e z.D w.D;refine u0v x y V _ ((W05 hx.re hy.re (by omega) (by omega)).mono λv V1 l1 ⟨r1,hv,h1⟩=>⟨r1,hv,?_⟩);replace hx:=hx.le l1; replace hy:=hy.le l1;refine(W05 hx.im hy.im (by omega) (by omega)).mono λv V2 l2 ⟨r2,hv,h2⟩=>⟨r2,hv,?_⟩;replace hx:=hx.le l2; replace hy:=hy.le l2; replace h1:=h1.le l2;refine(t04 h2).mono λv V3 l3 ⟨r3,hv,h3⟩=>⟨r3,hv,?_⟩;replace hx:=hx.le l3; replace hy:=hy.le l3; replace h1:=h1.le l3;refine(J06 h1 h3 (by omega) (by omega)).mono λv V4 l4 ⟨r4,hv,h4⟩=>⟨r4,hv,?_⟩;replace hx:=hx.le l4; replace hy:=hy.le l4;refine(W05 hx.re hy.im (by omega) (by omega)).mono λv V5 l5 ⟨r5,hv,h5⟩=>⟨r5,hv,?_⟩;replace hx:=hx.le l5; replace hy:=hy.le l5; replace h4:=h4.le l5;refine(W05 hx.im hy.re (by omega) (by omega)).mono λv V6 l6 ⟨r6,hv,h6⟩=>⟨r6,hv,?_⟩;replace hx:=hx.le l6; replace hy:=hy.le l6; replace h4:=h4.le l6; replace h5:=h5.le l6;refine(J06 h5 h6 (by omega) (by omega)).mono λv V7 l7 ⟨r7,hv,h7⟩=>⟨r7,hv,?_⟩;replace hx:=hx.le l7; replace hy:=hy.le l7; replace h4:=h4.le l7;refine(d03 hx).mono λv V8 l8 ⟨r8,hv,h8⟩=>⟨r8,hv,?_⟩;replace hy:=hy.le l8; replace h4:=h4.le l8; replace h7:=h7.le l8;refine(d03 hy).mono λv V9 l9 ⟨r9,hv,h9⟩=>⟨r9,hv,?_⟩;replace h4:=h4.le l9; replace h7:=h7.le l9; replace h8:=h8.le l9;refine(P09 h8 h9 (by omega) (by omega)).mono λv V10 l10 ⟨r10,hv,h10⟩=>⟨r10,hv,?_⟩;refine(A05 (h4.le l10) (h7.le l10) h10 ?_ (by omega) (by omega) (by omega)).mono λv V11 _ ⟨r,hv,hr⟩=>⟨r,hv,r,rfl,hr⟩;rw[<-Int.sub_eq_add_neg]; exact z.canon.rep.mul w.canon.rep
theorem N08{V:View}{x y:NumV}{z w:Cq}(hx:Q00 V x z)(hy:Q00 V y w)(hz:z.sz<=2^40)(hw:w.sz<=2^40) :
 a00 prog K0u #[x.val,y.val] V λv _=>v = .bool (decide (z=w)):=by
 have zA:=Cq.wA hz; have zB:=Cq.wB hz; have zD:=Cq.wD hz;have wA:=Cq.wA hw; have wB:=Cq.wB hw; have wD:=Cq.wD hw;refine e0s x y V _ ((n09 hx.re hy.re (by omega) (by omega)).mono λv V1 l1 hv=>⟨_,hv,λh1 => ?_,λh1=>⟨(λh=>by cases h),λ_ => ?_⟩⟩)
 . have h1:z.A=w.A:=Q0g.1 (by simpa using h1);refine(n09 (hx.im.le l1) (hy.im.le l1) (by omega) (by omega)).mono λv V2 l2 hv=>⟨_,hv,λh2 => ?_,λh2 => ?_⟩
   . have h2:z.B=w.B:=Q0g.1 (by simpa using h2);refine(O09 (hx.under.le (Gx l1 l2)) (hy.under.le (Gx l1 l2)) ?_).mono λv V3 l3 hv=>⟨_,hv,?_⟩
     . split
       . rw[s0d]; omega
       omega
     have hD1:=z.D_pos;have hD2:=w.D_pos;congr 1;by_cases e:z.D=w.D
     . have:z=w:=F11 h1 h2 e;subst this; simp
     have:z≠w:=by rintro rfl; exact e rfl
     simp only[this,decide_false];have h3:(if z.D=1 then 0 else z.D)≠(if w.D=1 then 0 else w.D):=by split<;>split<;>omega
     rw[if_neg h3];by_cases h:(if z.D=1 then 0 else z.D)<(if w.D=1 then 0 else w.D)
     . rw[if_pos h]; rfl
     rw[if_neg h]; rfl
   have h2:¬z.B=w.B:=λe=>by rw[Q0g.2 e]at h2; simp at h2
   have:z≠w:=by rintro rfl; exact h2 rfl
   simp[this]
 have h1:¬z.A=w.A:=λe=>by rw[Q0g.2 e]at h1; simp at h1
 have:z≠w:=by rintro rfl; exact h1 rfl
 simp[this]
theorem I02{V:View}{x:NumV}{z:Cq}(hx:Q00 V x z):a00 prog Q0u #[x.val] V λv _=>v = .bool (decide (z.im=0)):=by
 refine f0s x V _ ?_;have h1:=hx.im.2.len_zero;have h2:=Cq.B_zero (z:=z);congr 1;by_cases e:z.im=0
 . have:x.im.mag.len=0:=h1.2 (by rw[h2.2 e]; rfl);simp[e,this]
 have:x.im.mag.len≠0:=λh=>e (h2.1 (by have:=h1.1 h; omega))
 simp only[e,decide_false,beq_eq_false_iff_ne,ne_eq]; omega
theorem N06{V:View}{x y:NumV}{z w:Cq}(hx:Q00 V x z)(hy:Q00 V y w)(hz:z.sz<=2^40)(hw:w.sz<=2^40) :
 a00 prog M0w #[x.val,y.val] V λv _=>v = .int .i64 (z.cmp w):=by
 have zA:=Cq.wA hz; have zB:=Cq.wB hz; have zD:=Cq.wD hz;have wA:=Cq.wA hw; have wB:=Cq.wB hw; have wD:=Cq.wD hw;have zD':wn (z.D:Int).natAbs<=2^35:=zD;have wD':wn (w.D:Int).natAbs<=2^35:=wD;have s1:=U07 zA wD'; have s2:=U07 wA zD'; have s3:=U07 zB wD'; have s4:=U07 wB zD';have c1:cmpZ (z.A*w.D) (w.A*z.D)=cmpR z.re w.re:=by rw[O11 z.D_pos w.D_pos,<-z.canon.rep.re,<-w.canon.rep.re]
 have c2:cmpZ (z.B*w.D) (w.B*z.D)=cmpR z.im w.im:=by rw[O11 z.D_pos w.D_pos,<-z.canon.rep.im,<-w.canon.rep.im]
 refine w0v x y V _ ((d03 hy).mono λv V1 l1 ⟨r1,hv,h1⟩=>⟨r1,hv,?_⟩);replace hx:=hx.le l1; replace hy:=hy.le l1;refine(M02 hx.re h1 (by omega) (by omega)).mono λv V2 l2 ⟨r2,hv,h2⟩=>⟨r2,hv,?_⟩;replace hx:=hx.le l2; replace hy:=hy.le l2;refine(d03 hx).mono λv V3 l3 ⟨r3,hv,h3⟩=>⟨r3,hv,?_⟩;replace hx:=hx.le l3; replace hy:=hy.le l3; replace h2:=h2.le l3;refine(M02 hy.re h3 (by omega) (by omega)).mono λv V4 l4 ⟨r4,hv,h4⟩=>⟨r4,hv,?_⟩;replace hx:=hx.le l4; replace hy:=hy.le l4; replace h2:=h2.le l4;refine(n09 h2 h4 (by omega) (by omega)).mono λv V5 l5 hv=>⟨_,hv,λhn => ?_,λhn => ?_⟩
 . rw[c1]at hn ⊢;have hn:cmpR z.re w.re≠0:=by simpa using hn
   unfold Cq.cmp; rw[if_pos hn]
 rw[c1]at hn;have hn:¬cmpR z.re w.re≠0:=by simpa using hn
 replace hx:=hx.le l5; replace hy:=hy.le l5;refine(d03 hy).mono λv V6 l6 ⟨r6,hv,h6⟩=>⟨r6,hv,?_⟩;replace hx:=hx.le l6; replace hy:=hy.le l6;refine(M02 hx.im h6 (by omega) (by omega)).mono λv V7 l7 ⟨r7,hv,h7⟩=>⟨r7,hv,?_⟩;replace hx:=hx.le l7; replace hy:=hy.le l7;refine(d03 hx).mono λv V8 l8 ⟨r8,hv,h8⟩=>⟨r8,hv,?_⟩;replace hx:=hx.le l8; replace hy:=hy.le l8; replace h7:=h7.le l8;refine(M02 hy.im h8 (by omega) (by omega)).mono λv V9 l9 ⟨r9,hv,h9⟩=>⟨r9,hv,?_⟩;replace h7:=h7.le l9;refine(n09 h7 h9 (by omega) (by omega)).mono λv V10 l10 hv=>⟨_,hv,?_⟩;unfold Cq.cmp; rw[if_neg hn,c2]
theorem u0b{V:View}{x y:NumV}{w:Cq}(hy:Q00 V y w):a00 prog q0t #[x.val,y.val] V λv V'=>∃r:NumV,v=r.val/\Q00 V' r w :=
 e0x x y V _ ⟨y,rfl,hy⟩
def lenB(n:Nat):Bool:=[1,2,4,8,16,32,64].contains n
theorem c13:∀n∈List.range 65,1<=n->(i64.wrap (BitVec.toNat ((BitVec.ofInt i64.bits (n:Int)) &&& (BitVec.ofInt i64.bits (i64.wrap ((n:Int)-1)))))==0)=lenB n:=by
 decide +kernel
theorem G0s{n:Nat}(h:lenB n=true):1<=n/\n<=64:=by
 simp[lenB]at h; omega
theorem E07{V:View}{n:Int}(h0:0<=n):a00 prog P0b #[.int .i64 n] V λv _=>v = .bool (lenB n.toNat):=by
 refine U0f n V _ ⟨λh1=>⟨λh2 => ?_,λh2 => ?_⟩,λh1=>⟨λh=>absurd h (by simp),λ_ => ?_⟩⟩
 . simp only[Af]at h1 h2;have:=c13 n.toNat (by simp; omega) (by omega);rw[Int.toNat_of_nonneg h0]at this;rw[this]
 . simp only[Ac]at h2;congr 1; symm;rw[Bool.eq_false_iff]; intro e;have:=G0s e; omega
 simp only[Ac]at h1;congr 1; symm;rw[Bool.eq_false_iff]; intro e;have:=G0s e; omega
theorem w0b{V:View}(p q:Sl):a00 prog j0c #[p.v,q.v] V λv _=>v = .bool (lenB q.len&&decide (p.len=q.len)):=by
 refine F0b p q V _ ((E07 (Cg _)).mono λv V1 l1 hv=>⟨_,hv,λh => ?_,λh => ?_⟩)
 . rw[Aa]at h;rw[h,Fe]; congr 1;rw[Bool.eq_iff_iff]; simp; omega
 rw[Aa]at h;rw[h,Do9]
def ratQ(r:RatV):Cq:=if r.den=0 then⟨(r.re:Rat),(r.im:Rat)⟩else⟨(r.re:Rat) / (r.den:Rat),(r.im:Rat) / (r.den:Rat)⟩
def ratI(r:RatV):Prop:=(-9223372036854775808<=r.re/\r.re<=9223372036854775807)/\(-9223372036854775808<=r.im/\r.im<=9223372036854775807)/\(-9223372036854775808<=r.den/\r.den<=9223372036854775807)
def ratC(_:View)(x:List Value)(r:RatV):Prop:=x=r.val.cells.toList
def b0c(V:View)(s:Sl)(rs:List RatV):Prop:=n00 3 ratC V s rs
theorem b0c.le{V V':View}(hle:V.le V'){s:Sl}{rs:List RatV}(h:b0c V s rs):b0c V' s rs:=He (P:=ratC) (V:=V) (V':=V') (λ_ _ h=>h) hle h
theorem S09{V:View}{r:RatV}(h:ratI r):a00 prog K0w #[r.val] V λv V'=>∃x:NumV,v=x.val/\Q00 V' x (ratQ r):=by
 obtain⟨⟨a1,a2⟩,⟨b1,b2⟩,⟨c1,c2⟩⟩:=h;refine x0v r V _ ⟨λh0 => ?_,λh0 => ?_⟩
 . have h0:r.den=0:=by simpa using h0
   refine(a0c a1 a2 b1 b2 (by omega) (by omega) (by omega)).mono λv V1 _ ⟨x,hv,hx⟩=>⟨x,0,hv,x,rfl,?_⟩;have e:ratQ r=⟨(r.re:Rat) / ((1:Int):Rat),(r.im:Rat) / ((1:Int):Rat)⟩:=by
    unfold ratQ; rw[if_pos h0]; simp only[Bm,Cq.mk.injEq]; constructor<;>grind
   rw[e]; exact hx
 have h0:r.den≠0:=by simpa using h0
 refine(a0c a1 a2 b1 b2 c1 c2 h0).mono λv V1 _ ⟨x,hv,hx⟩=>⟨x,0,hv,x,rfl,?_⟩;unfold ratQ; rw[if_neg h0]; exact hx
theorem x0b(r:NumV):∀v∈[Value.bool r.re.neg,r.re.mag.v,Value.bool r.im.neg,r.im.mag.v,r.under.v],Value.oneCell' v=true:=by
 intro v hv;simp only[Bq,Cp,Eq9]at hv;rcases hv with rfl|rfl|rfl|rfl|rfl<;>rfl
theorem T09{V:View}{b:Nat}{l:List Value}(h:V b=some l.toArray):V.has (some (Addr.mk b 0 none)) l:=by
 intro j v hj;rw[g09 h]; simpa using hj
theorem W07{V:View}{s:Sl}{zs:List Cq}{a:Int}(h:H01 V s zs)(ha:0<=a)(ha1:a<=1)(hn:zs.length<=2^32)(hn1:1<=zs.length) :
 a00 prog E0b #[s.v,.int .i64 a] V λv V'=>∃r:Sl,v=r.v/\H01 V' r (d02 zs a.toNat):=by
 have hl:=h.len;refine i0b s a V _ (λ_ x V'=>∃l,x.t6=a+2*x.t5l/\2*x.t5l+a.toNat<=zs.length+1/\G02 5 x.t5l x.t5c x.o5 l/\u05 V' l ((List.range x.t5l).map λk=>nth zs (a.toNat+2*k)))
  (λ_ x _=>zs.length+2-2*x.t5l) ⟨⟨[],by simp,by simp; omega,Hg,rfl⟩,?_⟩
 rintro⟨n,c,t,o⟩ V1 l1 ⟨l,ht,hm,hlo,hin⟩;simp only at ht hm hlo hin ⊢;refine⟨λhlt => ?_,λhge => ?_⟩
 . simp only[Af]at hlt;obtain⟨hb,x,hx,hs,hnx⟩:=(h.le l1).get (t:=t) (by omega) (by omega);refine⟨hb,x,hx,hs,λb V2 l2 hf hV2 => ?_⟩;refine⟨l,_,hlo,T09 (l:=[.bool x.re.neg,x.re.mag.v,.bool x.im.neg,x.im.mag.v,x.under.v]) hV2,rfl,x0b x,?_,?_,λc1 l3 hl3 => ?_⟩
   . simp only[maxLen]; omega
   . omega
   have e:i64.wrap (t+2)=t+2:=i64w (by omega) (by omega);refine⟨⟨_,by rw[e]; simp; omega,by omega,hl3,?_⟩,by omega⟩;rw[<-A0m];have e3:a.toNat+2*n=t.toNat:=by omega
   rw[e3];exact(hin.le l2).push (hnx.le l2)
 simp only[Ac]at hge;intro b V3 l3 hb;refine⟨_,rfl,?_⟩;have e:n=(zs.length+1-a.toNat) / 2:=by omega
 unfold d02;rw[<-e];exact k04 hlo hb (hin.le l3) (by simp)
theorem o06:∀(m:Nat) {V:View} {p w:Sl} {zs ws:List Cq} (S T:Nat),m<=6->zs.length=2^m->ws.length=2^m->H01 V p zs->H01 V w ws ->
 (∀i,i<2^m->(nth zs i).sz<=S)->(∀i,i<2^m->(nth ws i).sz<=T)->2^m*(S+T+2)<=2^39 ->
 j0f prog D0b #[p.v,w.v] j0m V λn cap l rest V'=>n=(q02 m zs ws).length/\cap=n/\rest=[]/\u05 V' l (q02 m zs ws)
 | m,V,p,w,zs,ws,S,T,hm,hz,hw,hp,hq,hS,hT,hsz=>by
   have hpl:=hp.len;have hwl:=hq.len;have hpow:2^m<=64:=Ar (n:=2) (by omega) hm;have hpos:0<2^m:=Bi (by omega);rw[Y02];refine j0b p w V _ (λc x V'=>∃m' zs' ws',m=m'+1/\zs'=q02 m' (d02 zs 0) (d02 ws 0)/\ws'=q02 m' (d02 zs 1) (d02 ws 0) /\
    H01 V' c.t8 zs'/\H01 V' c.t9 ws'/\0<=x.t36/\x.t36<=(2^m':Nat) /\
    u05 V' x.o15 (E0d (2^m') x.t36.toNat (λi=>nth zs' i+nth ws' i*nth ws i) (λi=>nth zs' i-nth ws' i*nth ws i)))
    (λ_ x _=>2^m-x.t36.toNat) ⟨⟨by omega,by omega,by omega,by omega⟩,λh1 => ?_,λh1 => ?_⟩
   . have h1:p.len=1:=by have:(p.len:Int)=1:=(by simpa using h1); omega
     have hm0:m=0:=by
      rcases Ap m with h|h
      . exact h
      have:2^1<=2^m:=Ar (by omega) h;omega
     subst hm0;obtain⟨hb,x,hx,hs,hnx⟩:=hp.get (t:=0) (by omega) (by simp[hz]);have hset:=(u05.zeros V 1).set (i:=0) (by simp) hnx;refine⟨hb,x,hx,hs,⟨by omega,by omega⟩,?_,?_,?_⟩
     . simp[h1]
     . refine⟨by simp[h1],?_⟩;intro e;have h5:=f01.length hset;simp only[h1]at e;have h6:(0:Nat)=5:=(Ck List.length e).symm.trans h5;omega
     refine⟨by simp[h1],rfl,rfl,?_⟩;simp only[h1];exact hset
   have h1:p.len≠1:=by intro e; simp[e]at h1
   obtain ⟨m', rfl⟩ : ∃ m', m = m' + 1 := ⟨m - 1, by rcases Ap m with h | h; · subst h; simp at hz; omega
                                                     . omega⟩
   have hp2:2^(m'+1)=2*2^m':=by rw[Ba]; omega
   have hmul:2^(m'+1)*(S+T+2)=2*(2^m'*(S+T+2)):=by rw[hp2,Bj]
   have bz:∀a,a<=1->∀i,i<2^m'->(nth (d02 zs a) i).sz<=S:=by
    intro a ha i hi; rw[S0a (by omega)]; exact hS _ (by omega)
   have bw:∀i,i<2^m'->(nth (d02 ws 0) i).sz<=T:=by
    intro i hi; rw[S0a (by omega)]; exact hT _ (by omega)
   refine(W07 hq (Ew 0) (by omega) (by omega) (by omega)).mono λv V1 l1 ⟨r1,hv,hr1⟩=>⟨r1,hv,?_⟩;refine(W07 (hp.le l1) (Ew 0) (by omega) (by omega) (by omega)).mono λv V2 l2 ⟨r2,hv,hr2⟩=>⟨r2,hv,?_⟩;have ne:∀zs ws,q02 m' zs ws≠[]:=by
    intro zs ws e;have:=Y02 m' zs ws;rw[e]at this; simp at this;have:0<2^m':=Bi (by omega);omega
   refine(b0i (ne _ _) (o06 m' S T (by omega) (by simp[E03]; omega) (by simp[E03]; omega) hr2 (hr1.le l2) (bz 0 (by omega)) bw (by omega))).mono λv V3 l3 ⟨r3,hv,hr3⟩=>⟨r3,hv,?_⟩;refine(W07 (hp.le (Gx l1 (Gx l2 l3))) (a:=1) (by omega) (by omega) (by omega) (by omega)).mono λv V4 l4 ⟨r4,hv,hr4⟩=>⟨r4,hv,?_⟩;refine(b0i (ne _ _) (o06 m' S T (by omega) (by simp[E03]; omega) (by simp[E03]; omega) hr4 (hr1.le (Gx l2 (Gx l3 l4))) (bz 1 (by omega)) bw (by omega))).mono λv V5 l5 ⟨r5,hv,hr5⟩=>⟨r5,hv,?_⟩;have le5:View.le V V5:=Gx l1 (Gx l2 (Gx l3 (Gx l4 l5)));have hdiv:i64.wrap (Int.tdiv (p.len:Int) 2)=((2^m':Nat):Int):=by
    have e:Int.tdiv (p.len:Int) 2=((2^m':Nat):Int):=by
     rw[Int.tdiv_eq_ediv_of_nonneg (by omega)]; omega
    rw[e]; exact i64w (by omega) (by omega)
   rw[hdiv];refine⟨⟨m',_,_,rfl,rfl,rfl,hr3.le (Gx l4 l5),hr5,Ew 0,Cg _,?_⟩,?_⟩
   . simp only[Gm,y0s,Aa,hpl,hz,hp2];exact u05.zeros _ _
   rintro⟨t,o⟩ V6 l6 ⟨m2,zs',ws',em,rfl,rfl,h8,h9,h0,h1',hin⟩;have em:m'=m2:=by omega
   subst em;simp only at h8 h9 h0 h1' hin ⊢;have lz:=Y02 m' (d02 zs 0) (d02 ws 0);have lw:=Y02 m' (d02 zs 1) (d02 ws 0);have l8:=h8.len;have l9:=h9.len;have lo:∀k a b,(E0d (2^m') k a b).length=2*2^m':=by intro k a b; simp[E0d]
   refine⟨λhlt => ?_,λhge => ?_⟩
   . simp only[Af]at hlt;have hk:t.toNat<2^m':=by omega
     obtain⟨hb4,x4,hx4,hs4,hn4⟩:=h9.get h0 (by omega);obtain⟨hb5,x5,hx5,hs5,hn5⟩:=(hq.le (Gx le5 l6)).get h0 (by omega);have sE:=M09 m' (d02 zs 0) (d02 ws 0) S T (by simp[E03]; omega) (by simp[E03]; omega) (bz 0 (by omega)) bw t.toNat hk;have sO:=M09 m' (d02 zs 1) (d02 ws 0) S T (by simp[E03]; omega) (by simp[E03]; omega) (bz 1 (by omega)) bw t.toNat hk;have sW:=hT t.toNat (by omega);have hm2:S+T+2<=2^m'*(S+T+2):=Gc _ (Bi (by omega));have sU:=D02 (nth (q02 m' (d02 zs 1) (d02 ws 0)) t.toNat) (nth ws t.toNat);refine⟨hb4,x4,hx4,hs4,hb5,x5,hx5,hs5,(m03 hn4 hn5 (by omega) (by omega)).mono λv V7 l7 ⟨r6,hv,hr6⟩=>⟨r6,hv,?_⟩⟩;obtain⟨hb6,x6,hx6,hs6,hn6⟩:=(h8.le l7).get h0 (by omega);refine⟨hb6,x6,hx6,hs6,hb6,x6,hx6,hs6,(J03 hn6 hr6 (by omega) (by omega)).mono λv V8 l8' ⟨r7,hv,hr7⟩=>⟨r7,hv,?_⟩⟩;refine(D07 (hn6.le l8') (hr6.le l8') (by omega) (by omega)).mono λv V9 l9' ⟨r8,hv,hr8⟩=>⟨r8,hv,⟨h0,?_⟩,?_,?_⟩
     . omega
     . exact f01.room hin (by rw[lo]; omega)
     have ek:i64.wrap (t+((2^m':Nat):Int))=t+((2^m':Nat):Int):=i64w (by omega) (by omega);have ek2:Int.toNat (t+((2^m':Nat):Int))=t.toNat+2^m':=by omega
     have et:i64.wrap (t+1)=t+1:=i64w (by omega) (by omega);have et2:(t+1).toNat=t.toNat+1:=by omega
     rw[ek,ek2];have in9:=hin.le (Gx l7 (Gx l8' l9'));have s1:=in9.set (i:=t.toNat) (by rw[lo]; omega) (hr7.le l9');have s2:=s1.set (i:=t.toNat+2^m') (by rw[Dg,lo]; omega) hr8;refine⟨⟨by omega,by omega⟩,?_,⟨m',_,_,rfl,rfl,rfl,h8.le (Gx l7 (Gx l8' l9')),h9.le (Gx l7 (Gx l8' l9')),by rw[et]; omega,by rw[et]; omega,?_⟩,by simp only[et,et2]; omega⟩
     . exact f01.room s1 (by rw[Dg,lo]; omega)
     simp only[et,et2];rw[<-D0v hk];exact s2
   simp only[Ac]at hge;have e:t.toNat=2^m':=by omega
   rw[e]at hin;have e2:E0d (2^m') (2^m') (λi=>nth (q02 m' (d02 zs 0) (d02 ws 0)) i+nth (q02 m' (d02 zs 1) (d02 ws 0)) i*nth ws i)
    (λi=>nth (q02 m' (d02 zs 0) (d02 ws 0)) i-nth (q02 m' (d02 zs 1) (d02 ws 0)) i*nth ws i)=q02 (m'+1) zs ws:=by
    have h2:=m0k (q02 (m'+1) zs ws);rw[Y02]at h2;rw[<-h2];unfold E0d;rw[<-hp2];apply Ch;intro i hi;have hi:i<2^(m'+1):=by simpa using hi
    rw[q02,u0d hi];split
    . rfl
    rw[if_pos (by omega)]
   rw[e2]at hin;refine⟨⟨by omega,?_⟩,by omega,by simp,by simp,hin⟩;intro eo;subst eo;have:=f01.length hin;rw[Y02]at this;simp at this; omega
end Go.Proofs.YtjadnpidefnpoaaGreat
namespace Go.Proofs.YtjadnpidefnpoaaGreat
open Go Go.Vc Go.Proofs Go.ChangeShapes Go.RowKit
section
variable {H:Type} {enc:TypeId×Value->H} {P:Program} {w:World} {base:Nat} {spare:Nat->Bool} {held:Bool}
end
theorem a00.fits{P:Program}{f:FuncId}{args:Array Value}{r:Value}{V:View}(h:a00 P f args V λv _=>v=r){w:World}(hw:V.In w) :
 Calls P f args w λe w'=>e = .returned r/\Below w.heap.size w w' :=
 (h w hw).mono λ_ _ ⟨_,_,he,_,_,_,hb,hr⟩=>⟨by rw[he,hr],hb⟩
theorem Z0g{H:Type}{enc:TypeId×Value->H}{P:Program}(hl:laidOutB P=true){W W':World}(hb:Below W.heap.size W W') :
 ∀ {ts:List TypeId} {vs:List Value} {ds:List (DataW H)} {ps:List MemPlace},(∀t∈ts,P.readableRec t=true/\t<P.types.size)->(∀p∈ps,p.block<W.heap.size) ->
 DataW.TrodAll enc P W 0 (λ_=>true) true ts vs ds ps->DataW.TrodAll enc P W' 0 (λb=>decide (b<W.heap.size)) true ts vs ds ps
 | [],[],[],_,_,_,h=>h
 | t::ts,v::vs,d::ds,ps,ht,hlt,⟨p,q,h1,h2,e⟩=>by
   subst e;exact⟨p,q,Below.trod hl (ht t (by simp)).1 (ht t (by simp)).2 h1 hb (λx hx=>hlt x (by simp[hx])),
    Z0g hl hb (λt' ht'=>ht t' (by simp[ht'])) (λx hx=>hlt x (by simp[hx])) h2,rfl⟩
 | [],[],_::_,_,_,_,h=>h.elim
 | [],_::_,_,_,_,_,h=>h.elim
 | _::_,[],_,_,_,_,h=>h.elim
 | _::_,_::_,[],_,_,_,h=>h.elim
theorem F0q{H:Type}{enc:TypeId×Value->H}{P:Program}{f:Func}{s:ChangeSpec}{apart fresh handsOn:Bool}{W W':World}{args:Array Value}{v:Value}{ds:List (DataW H)}{before:List MemPlace}
 (hl:laidOutB P=true) (ht:∀t∈f.params.toList,P.readableRec t=true/\t<P.types.size)
 (hW:DataW.Whole enc P f.params.toList s.vars apart W args.toList ds [] before) (hA:DataW.TrodAll enc P W 0 (λ_=>true) true f.params.toList args.toList ds before)
 (hres:∀(b:Nat) (sp:Nat->Bool) (hd:Bool),DataW.TrodAll enc P W' b sp hd f.resultTypes.toList (v.resultList f.resultTypes.size) (s.fn H (ds++[])).results [])
 (hargs:(s.fn H (ds++[])).args=ds) (hvars:∀sp:Nat->Bool,DataW.TrodVars enc P W' sp s.vars (s.fn H (ds++[])).vars []) (hb:Below W.heap.size W W'):s.post enc P f apart fresh handsOn false W args v W':=by
 refine⟨ds,[],before,[],before,[],hW,hres _ _ _,?_,hvars _,World.keptBut_mono (λp hp=>⟨hp,.inr (.inl hp)⟩) (hb.frame (·∈before)),λh=>Bool.noConfusion h⟩;rw[hargs];exact Z0g hl hb ht (λp hp=>hW.lt p hp) hA
inductive FK where
 | int (k:IntKind)
 | bool
def FK.ok:FK->Value->Prop
 | .int k,v=>∃n,v = .int k n/\(Lit.int k n).wf=true
 | .bool,v=>∃b,v = .bool b
def a0h:List FK->List Value->Prop
 | [],[]=>True
 | f::fs,v::vs=>f.ok v/\a0h fs vs
 | _,_=>False
theorem a0h.append:∀ {l l':List FK} {v v':List Value},a0h l v->a0h l' v'->a0h (l++l') (v++v')
 | [],_,[],_,_,h=>h
 | _::_,_,_::_,_,⟨h1,h2⟩,h=>⟨h1,a0h.append h2 h⟩
 | [],_,_::_,_,h,_=>h.elim
 | _::_,_,[],_,h,_=>h.elim
def G0q(P:Program)(F:TypeId->Option (List FK)):List Field->Nat->Option (List FK)
 | [],_=>some []
 | f::fs,off=>match F f.type,G0q P F fs (off+P.cellsOf f.type)with
   | some l,some r=>if f.offset=off/\l.length=P.cellsOf f.type then some (l++r)else none
   | _,_=>none
def s0o(P:Program):Nat->TypeId->Option (List FK)
 | 0,_=>none
 | d+1,t=>match P.underlying t with
   | some (.int k)=>some [.int k]
   | some .bool=>some [.bool]
   | some (.struct fs) => match G0q P (s0o P d) fs.toList 0 with
     | some l=>if l.length=P.cellsOf t then some l else none
     | none=>none
   | some (.array n e) => match s0o P d e with
     | some l=>if l.length=P.cellsOf e/\n*l.length=P.cellsOf t then some (List.replicate n l).flatten else none
     | none=>none
   | _=>none
section
variable {H:Type} {enc:TypeId×Value->H} {P:Program} {w:World} {base:Nat} {spare:Nat->Bool} {held:Bool}
theorem A0k{F:TypeId->Option (List FK)}{n:Nat}(hF:∀t l cs x,F t=some l->DataW.trod enc P w base spare held n t cs=some x->a0h l cs){cs:List Value}{xs:List (DataW H×List MemPlace)}{all:List Field}(hxs:xs.length=all.length)
 (hf:∀(i:Nat) (f:Field),all[i]?=some f->DataW.trod enc P w base spare held n f.type ((cs.drop f.offset).take (P.cellsOf f.type))=xs[i]?) :
 ∀(fs pre:List Field) (off:Nat) (l:List FK),all=pre++fs->G0q P F fs off=some l->cs.length=off+l.length->a0h l (cs.drop off)
 | [],pre,off,l,he,h,hl=>by
   simp only[G0q,Ay]at h;subst h;rw[Gd (by simp at hl; omega)]; trivial
 | f::fs,pre,off,l,he,h,hl=>by
   simp only[G0q]at h;split at h
   . rename_i l1 r h1 h2;split at h
     . rename_i hc;obtain⟨rfl,hlen⟩:=hc;simp only[Ay]at h;subst h;have hi:all[pre.length]?=some f:=by rw[he]; simp
       have g:=hf _ f hi;have hx:pre.length<xs.length:=by rw[hxs,he]; simp
       rw[Ae hx]at g;have a1:=hF _ _ _ _ h1 g;have a2:=A0k hF hxs hf fs (pre++[f]) (f.offset+P.cellsOf f.type) r (by rw[he]; simp) h2 (by rw[Be]at hl; omega);have e:cs.drop f.offset=(cs.drop f.offset).take (P.cellsOf f.type)++cs.drop (f.offset+P.cellsOf f.type):=by
        rw[<-List.drop_drop,Dw]
       rw[e]; exact a1.append a2
     simp at h
   simp at h
theorem P0h:∀(d:Nat) (fuel:Nat) (t:TypeId) (l:List FK) (cs:List Value) (x:DataW H×List MemPlace),s0o P d t=some l->DataW.trod enc P w base spare held fuel t cs=some x->a0h l cs
 | 0,_,_,_,_,_,h,_=>by simp[s0o]at h
 | d+1,fuel,t,l,cs,x,h,hx=>by
   simp only[s0o]at h;split at h
   . rename_i k hu;obtain⟨n,rfl,_,hw⟩:=DataW.trod_int hu hx;simp only[Ay]at h;subst h;exact⟨⟨n,rfl,hw⟩,trivial⟩
   . rename_i hu;obtain⟨b,rfl,_⟩:=DataW.trod_bool hu hx;simp only[Ay]at h;subst h;exact⟨⟨b,rfl⟩,trivial⟩
   . rename_i fs hu;obtain⟨xs,n,rfl,_,hl,hxs,hf⟩:=DataW.trod_struct hu hx;split at h
     . rename_i l1 h1;split at h
       . rename_i hc;simp only[Ay]at h;subst h;have:=A0k (F:=s0o P d) (λt l cs x h1 h2=>P0h d n t l cs x h1 h2) (all:=fs.toList) (by simpa using hxs) (λi f hi=>hf i f (by simpa using hi)) fs.toList [] 0 l1 rfl h1 (by omega);simpa using this
       simp at h
     simp at h
   . rename_i n e hu;obtain⟨xs,m,rfl,_,hl,hxs,hf⟩:=DataW.trod_array hu hx;split at h
     . rename_i l1 h1;split at h
       . rename_i hc;obtain⟨c1,c2⟩:=hc;simp only[Ay]at h;subst h;have key:∀j,j<=n->a0h (List.replicate j l1).flatten (cs.take (j*P.cellsOf e)):=by
          intro j
          induction j with
          | zero=>intro _; simp; trivial
          | succ j ih =>
            intro hj;have a1:=ih (by omega);have g:=hf j (by omega);rw[Ae (by omega:j<xs.length)]at g;have a2:=P0h d m e l1 _ _ h1 g;have e1:cs.take ((j+1)*P.cellsOf e)=cs.take (j*P.cellsOf e)++(cs.drop (j*P.cellsOf e)).take (P.cellsOf e):=by
             rw[Bb,Ea,List.take_add]
            have e2:(List.replicate (j+1) l1).flatten=(List.replicate j l1).flatten++l1:=by
             rw[List.replicate_succ']; simp
            rw[e1,e2]; exact a1.append a2
         have:=key n (An9 _);rw[Dr9 (by rw[hl,<-c2,c1]; exact An9 _)]at this;exact this
       simp at h
     simp at h
   simp at h
theorem H0q{t:TypeId}{v:Value}{dd:DataW H}{ps:List MemPlace}{l:List FK}(hk:s0o P 8 t=some l)(h:DataW.Trod enc P w base spare held t v dd ps):a0h l v.cells.toList:=by
 obtain⟨fuel,h⟩:=h;exact P0h 8 fuel t l _ _ hk h
end
theorem F0i{v:Value}{l:List Value}(h:v.cells.toList=l)(hl:l.length≠1):v = .agg l.toArray:=by
 cases v with
 | agg cs => have : cs.toList = l := h
             rw[<-this]
 | _=>exact absurd (by rw[<-h]; rfl) hl
def I0q(w:World):View:=λb=>match w.heap[b]? with|some (.cells cs _ _)=>some cs|_=>none
theorem J0q(w:World):(I0q w).In w:=by
 intro i cs hi;unfold I0q at hi;split at hi
 . rename_i cs' T fr hw;simp at hi; subst hi;exact⟨T,fr,hw⟩
 simp at hi
section
variable {H:Type} {enc:TypeId×Value->H} {P:Program} {w:World} {base:Nat} {spare:Nat->Bool} {held:Bool}
end
end Go.Proofs.YtjadnpidefnpoaaGreat
namespace Go.Proofs.YtjadnpidefnpoaaGreat
open Go Go.Vc Go.Proofs
open Go.Proofs.Tryz (prog)
open Go.IntKind (i64 u64 u32 u8)
theorem t0o(x:Nat):O0d prog C0g #[.float .f64 x] (.int .u64 (x:Int)):=λw=>by kernel_rfl
theorem b0h(x:Nat):O0d prog J0d #[.int .u64 (x:Int)] (.float .f64 x):=λw=>by kernel_rfl
theorem N0m{V:View}{x:Nat}(h:x<2^64):a00 prog z0p #[.float .f64 x] V λv _=>v = .bool (decide (¬okW x)):=by
 refine M0n x V _ ?_;by_cases c:okW x
 . rw[q0b c c,Ao (λz=>z c)];have:compare (key x) (key x) = .eq:=by
    show compareOfLessAndEq _ _=_;unfold compareOfLessAndEq; rw[if_neg (by omega),if_pos rfl]
   rw[this]; rfl
 have:infR<x%2^63:=by unfold okW at c; omega
 rw[d0g this,Aq c]; rfl
theorem Q0h:okW 9218868437227405311/\key 9218868437227405311=(infR:Int)-1:=by decide
theorem l0y{x:Nat}(h:okW x) : -(infR:Int)<=key x/\key x<=(infR:Int):=by
 obtain⟨h1,h2⟩:=h;unfold key infR at *; split<;>omega
theorem P10{V:View}{x:Nat}(h:x<2^64):a00 prog W0d #[.float .f64 x,.int .i64 1] V λv _=>v = .bool (decide (okW x/\key x=(infR:Int))):=by
 refine f0d x 1 V _ ⟨λh=>absurd h (by simp),λ_=>⟨λh=>absurd h (by simp),λ_ => ?_⟩⟩;by_cases c:okW x
 . have:=l0y c;rw[y0t c Q0h.1,Q0h.2];congr 2; apply propext; constructor
   . intro z; exact⟨c,by omega⟩
   intro z; omega
 have:infR<x%2^63:=by unfold okW at c; omega
 rw[d0g this,Ao (λz=>c z.1)]; rfl
theorem Q0v{V:View}{x:Nat}(h:x<2^64):a00 prog W0d #[.float .f64 x,.int .i64 (-1)] V λv _=>v = .bool (decide (okW x/\key x = -(infR:Int))):=by
 refine f0d x (-1) V _ ⟨λh=>absurd h (by simp),λ_=>⟨λ_ => ?_,λh=>absurd h (by simp)⟩⟩;by_cases c:okW x
 . have:=l0y c;obtain⟨n1,n2⟩:=l0q c;rw[y0t n1 Q0h.1,Q0h.2,n2];congr 2; apply propext; constructor
   . intro z; exact⟨c,by omega⟩
   intro z; omega
 have h2:infR<x%2^63:=by unfold okW at c; omega
 have h3:infR<(Op.negFloat .f64 x)%2^63:=by rw[w0d h]; split<;>omega
 rw[d0g h3,Ao (λz=>c z.1)]; rfl
theorem m0y{V:View}:a00 prog i0m #[.int .i64 1] V λv _=>v = .float .f64 infR :=
 S0j 1 V _ ⟨λ_=>⟨infR,b0h infR,rfl⟩,λh=>absurd h (by simp)⟩
theorem Q10{V:View}:a00 prog i0m #[.int .i64 (-1)] V λv _=>v = .float .f64 18442240474082181120 :=
 S0j (-1) V _ ⟨λh=>absurd h (by simp),λ_=>⟨18442240474082181120,b0h 18442240474082181120,rfl⟩⟩
theorem n0y{x:Nat}(hx:x<18446744073709551616):(BitVec.ofInt 64 (x:Int)).toNat=x:=by
 rw[BitVec.toNat_ofInt]; omega
theorem S0h{x:Nat}(hx:x<2^64):(BitVec.ofInt u64.bits (x:Int)).toNat=x:=n0y (by omega)
theorem y0d{y:Nat}(hy:y<2^64):u64.wrap (y:Int)=(y:Int):=u64w (by omega) (by omega)
theorem o0y{x m:Nat}(hx:x<2^64)(hm:m<2^64):u64.wrap (BitVec.toNat ((BitVec.ofInt u64.bits (x:Int)) &&& ~~~(BitVec.ofInt u64.bits (m:Int))))=((x &&& (2^64-1-m):Nat):Int):=by
 have h2:x &&& (2^64-1-m)<=x:=Nat.and_le_left;have e3:(~~~(BitVec.ofInt u64.bits (m:Int))).toNat=2^64-1-m:=by
  rw[BitVec.toNat_not,S0h hm]; rfl
 rw[BitVec.toNat_and,S0h hx,e3];exact y0d (by omega)
theorem p0y{x m:Nat}(hx:x<2^64)(hm:m<2^64):u64.wrap (BitVec.toNat ((BitVec.ofInt u64.bits (x:Int)) ||| (BitVec.ofInt u64.bits (m:Int))))=((x ||| m:Nat):Int):=by
 rw[BitVec.toNat_or,S0h hx,S0h hm];exact y0d (Nat.or_lt_two_pow hx hm)
theorem L0t{V:View}{x:Nat}(h:x<2^64):a00 prog a0v #[.float .f64 x] V λv _=>v = .float .f64 (x%2^63):=by
 refine i0s x V _ ⟨x,t0o x,x%2^63,?_,rfl⟩;have e:=o0y (x:=x) (m:=2^63) h (by omega);have e2:x &&& (2^64-1-2^63)=x%2^63:=Dl x 63;rw[e2]at e;have e3:(((2^63:Nat):Int))=9223372036854775808:=by decide
 rw[e3]at e;rw[e]; exact b0h _
theorem K0q{V:View}{x:Nat}(h:okW x):a00 prog W0d #[.float .f64 x,.int .i64 0] V λv _=>v = .bool (decide (x%2^63=infR)):=by
 refine f0d x 0 V _ ⟨λ_=>(L0t h.1).mono λv V1 _ hv=>⟨_,hv,?_⟩,λh=>absurd h (by simp)⟩;have h2:=h.2;have ok:okW (x%2^63):=⟨by omega,by omega⟩;rw[y0t ok Q0h.1,Q0h.2];have:key (x%2^63)=((x%2^63:Nat):Int):=by unfold key; rw[if_pos (by omega)]
 rw[this];congr 2; apply propext; omega
theorem L0q{w:Nat}(h:w<2^63):key w=(w:Int):=by unfold key; rw[if_pos h]
theorem q0y{x:Nat}(hx:x<2^63):x &&& (2^64-1-9218868437227405312)=x%2^52:=by
 have hM:2^64-1-9218868437227405312=2^52*2^11+(2^52-1):=by decide
 rw[hM];have h1:(x &&& (2^52*2^11+(2^52-1)))%2^52=x%2^52:=by
  rw[Nat.and_mod_two_pow,Nat.mul_add_mod,Bx9 (by omega:2^52-1<2^52),Dl,Nat.mod_mod]
 have h2:(x &&& (2^52*2^11+(2^52-1))) / 2^52=0:=by
  rw[Nat.and_div_two_pow];have e:(2^52*2^11+(2^52-1)) / 2^52=2^11:=by decide
  rw[e];apply Nat.eq_of_testBit_eq;intro i;rw[Nat.testBit_and,Nat.testBit_two_pow,Nat.zero_testBit];by_cases c:11=i
  . subst c;rw[Nat.testBit_lt_two_pow (by omega:x / 2^52<2^11)]; rfl
  rw[Ao c,Bs]
 omega
theorem s0y{x m e k:Nat}(hw:x=e*2^52+m)(he:e<=2045)(h1:2^52<=m)(h2:m<2^53)(hk:k<=2045) :
 u64.wrap (BitVec.toNat ((BitVec.ofInt u64.bits (u64.wrap (BitVec.toNat ((BitVec.ofInt u64.bits (x:Int)) &&& ~~~(BitVec.ofInt u64.bits 9218868437227405312))))) ||| (BitVec.ofInt u64.bits (u64.wrap ((u64.wrap ((k+1:Nat):Int))*2^(min (Int.toNat 52) (u64.bits)))))))=((k*2^52+m:Nat):Int):=by
 have hx:x<2^63:=by omega
 have a:=o0y (x:=x) (m:=9218868437227405312) (by omega) (by omega);rw[q0y hx]at a;have am:x%2^52=m-2^52:=by omega
 rw[am]at a;have a9:(((9218868437227405312:Nat)):Int)=9218868437227405312:=rfl;rw[a9]at a;rw[a];have hp:(2:Int)^(min (Int.toNat 52) u64.bits)=((2^52:Nat):Int):=by decide
 have e3:u64.wrap (u64.wrap ((k+1:Nat):Int)*((2^52:Nat):Int))=(((k+1)*2^52:Nat):Int):=by
  rw[y0d (y:=k+1) (by omega),<-Cc,y0d (by omega)]
 rw[hp,e3,p0y (by omega) (by omega)];congr 1;have hor:=Dt (i:=52) (b:=m-2^52) (by omega) (k+1);rw[Nat.or_comm,Br (k+1),<-hor]; omega
theorem P14{n m e t k b c d:Nat}(hv:m*2^e=n*2^c)(h1:k+d=e+t)(h2:52+c=b+d):2^52*m*2^k=n*2^t*2^b:=by
 refine Fn9 (Bi (by omega):0<2^d) ?_;have e1:2^52*m*2^k*2^d=2^52*(m*2^e)*2^t:=by
  rw[Bj (2^52*m),<-Av,h1,Av]; ac_rfl
 have e2:n*2^t*2^b*2^d=n*2^t*(2^52*2^c):=by
  rw[Bj (n*2^t),<-Av,<-Av,h2]
 rw[e1,e2,hv]; ac_rfl
theorem S10:Ieee.double.read 4607182418800017408 = .number false (2^52) (-52):=by decide +kernel
theorem t0y:Ieee.double.read 4368491638549381120 = .number false (2^52) (-105):=by decide +kernel
theorem O0m{V:View}{n r:Nat}{s:Int}(h0:n≠0)(hn:n<=2^53)(s0 : -1074<=s)(s1:s<=2^40)(hr:r<infR)(h:rm r=n*2^(s+1074).toNat) :
 a00 prog p0i #[.float .f64 (FloatKind.f64.nearest (n:Int)),.int .i64 s] V λv _=>v = .float .f64 r:=by
 obtain⟨e,m,hw,m1,m2,hv,e0,e1⟩:=p0q h0 hn;generalize FloatKind.f64.nearest (n:Int)=x at hw;have hx63:x<2^63:=by omega
 have hmod:x%2^63=x:=Bx9 hx63;have hxi:x<infR:=by unfold infR; omega
 have hok:okW x:=⟨by omega,by omega⟩;have hkey:key x=(x:Int):=L0q hx63;have hdiv:x / 2^52=e+1:=by omega
 have hmd:x%2^52=m-2^52:=by omega
 have hnl:=y14 h hr h0;have hlm:n.log2+52=e-1022+52:=by
  have a1:=((n0j (n:=m) (k:=e) (by omega)).symm.trans (Ck Nat.log2 hv)).trans (n0j (n:=n) (k:=1074) h0);have a2:m.log2=52:=(Ei (by omega)).2 ⟨m1,m2⟩;omega
 have hs:s<=1023:=by omega
 refine G0g x s V _ ⟨λh=>absurd h (by simp),λ_ => ?_⟩;refine a00.mono (F0g x s V (λv _=>v = .float .f64 r) ⟨λhz => ?_,λ_ => ?_⟩) (λv V1 _ hv=>⟨r,hv,rfl⟩)
 . exfalso;rw[E0x hok (by decide),hkey]at hz;have:key 0=0:=by decide
   rw[this]at hz;simp only[Af]at hz;omega
 refine(K0q hok).mono λv V1 l1 hv1=>⟨_,hv1,λhc => ?_,λ_ => ?_⟩
 . exfalso; simp only[Af]at hc; omega
 refine(N0m (by omega:x<2^64)).mono λv V2 l2 hv2=>⟨_,hv2,λhc => ?_,λ_ => ?_⟩
 . exfalso; simp only[Af]at hc; exact hc hok
 have hnorm:a00 prog Q0i #[.float .f64 x] V2 λv _=>v = .tuple #[.float .f64 x,.int .i64 0]:=by
  refine D0h x V2 _ ((L0t (by omega:x<2^64)).mono λv V3 l3 hv3=>⟨_,hv3,λhc => ?_,λ_=>rfl⟩);exfalso;rw[hmod,Q11 hok (by decide),hkey]at hc;have:key 4503599627370496=4503599627370496:=by decide
  rw[this]at hc;simp only[Af]at hc;omega
 refine hnorm.mono λv V3 l3 hv3=>⟨x,0,hv3,x,t0o x,?_⟩;have hE:i64.wrap (i64.wrap (s+0)+i64.wrap (i64.wrap (BitVec.toNat ((BitVec.ofInt i64.bits (i64.wrap (Int.fdiv (x:Int) (2^(min (Int.toNat 52) u64.bits))))) &&& (BitVec.ofInt i64.bits 2047)))-1023))=s+(e:Int)-1022:=by
  have hp:(2:Int)^(min (Int.toNat 52) u64.bits)=((2^52:Nat):Int):=by decide
  have hd:Int.fdiv (x:Int) ((2^52:Nat):Int)=((e+1:Nat):Int):=by
   rw[Bd _ (by omega),<-Int.natCast_ediv,hdiv]
  rw[hp,hd,i64w (n:=((e+1:Nat):Int)) (by omega) (by omega),BitVec.toNat_and];have b1:(BitVec.ofInt i64.bits ((e+1:Nat):Int)).toNat=e+1:=n0y (by omega);have b2:(BitVec.ofInt i64.bits 2047).toNat=2^11-1:=by decide
  rw[b1,b2,Dl,Bx9 (by omega),i64w (n:=((e+1:Nat):Int)) (by omega) (by omega),i64w (n:=((e+1:Nat):Int)-1023) (by omega) (by omega),i64w (n:=s+0) (by omega) (by omega),i64w (by omega) (by omega)];omega
 rw[hE];refine⟨λhc => ?_,λ_=>⟨λhc => ?_,λ_=>⟨λhc => ?_,λhc => ?_⟩⟩⟩
 . exfalso; simp only[Af]at hc; omega
 . exfalso; simp only[Af]at hc; omega
 . simp only[Af]at hc;obtain⟨k,hk⟩:∃k:Nat,(k:Int)=s+e+53:=⟨(s+e+53).toNat,by omega⟩;have hk5:k<=2045:=by omega
   have w1:i64.wrap (i64.wrap (s+(e:Int)-1022+53)+1023)=((k+1:Nat):Int):=by
    rw[i64w (n:=s+(e:Int)-1022+53) (by omega) (by omega),i64w (by omega) (by omega)]; omega
   rw[w1,s0y hw (by omega) m1 m2 hk5];refine⟨_,b0h _,r,o0q t0y (n0q hk5 m1 m2) hr (by omega) (by omega) (a:=k) (b:=105) (by omega) ?_,rfl⟩;rw[h];exact P14 (d:=1021) hv (by omega) (by omega)
 simp only[Ac]at hc;obtain⟨k,hk⟩:∃k:Nat,(k:Int)=s+e:=⟨(s+e).toNat,by omega⟩;have hk5:k<=2045:=by omega
 have w1:i64.wrap (s+(e:Int)-1022+1023)=((k+1:Nat):Int):=by
  rw[i64w (by omega) (by omega)]; omega
 rw[w1,s0y hw (by omega) m1 m2 hk5];refine⟨_,b0h _,r,o0q S10 (n0q hk5 m1 m2) hr (by omega) (by omega) (a:=k) (b:=52) (by omega) ?_,rfl⟩;rw[h];exact P14 (d:=1074) hv (by omega) (by omega)
theorem S0v{V:View}{s:Int}:a00 prog p0i #[.float .f64 (FloatKind.f64.nearest 0),.int .i64 s] V λv _=>v = .float .f64 0:=by
 rw[W0i];refine G0g 0 s V _ ⟨λh=>absurd h (by simp),λ_ => ?_⟩;refine a00.mono (F0g 0 s V (λv _=>v = .float .f64 0) ⟨λ_=>rfl,λhz => ?_⟩) (λv V1 _ hv=>⟨0,hv,rfl⟩);exfalso; revert hz; decide
theorem B0k{V:View}{x:Nat}(h:x<2^64):a00 prog G0p #[.float .f64 x] V λv _=>v = .bool (decide (x%2^63<infR)):=by
 refine K0n x V _ ((N0m h).mono λv V1 _ hv=>⟨_,hv,λhc => ?_,λhc => ?_⟩)
 . have hok:okW x:=by simpa using hc
   refine(K0q hok).mono λv V2 _ hv=>⟨_,hv,?_⟩;have:=hok.2;by_cases c:x%2^63=infR
   . rw[Aq c,Ao (by omega)]; rfl
   rw[Ao c,Aq (by omega)]; rfl
 have hok:¬okW x:=by simpa using hc
 have:¬x%2^63<infR:=λc=>hok ⟨h,by omega⟩
 rw[Ao this]
def fld(x:Nat):Nat:=x / 2^52%2048
def mant(x:Nat):Nat:=if fld x=0 then x%2^52 else x%2^52+2^52
def up1(x:Nat):Nat:=if fld x=0 then 1 else fld x
def sgI(x:Nat)(n:Nat):Int:=if 2^63<=x then -(n:Int)else n
theorem u0o(x:Nat):mant x<2^53:=by unfold mant; split<;>omega
theorem g13(x:Nat):rm (x%2^63)=mant x*2^(up1 x-1):=by
 have hf:x%2^63 / 2^52=fld x:=by unfold fld; omega
 have hm:x%2^63%2^52=x%2^52:=by omega
 unfold rm mant up1;rw[hf,hm];by_cases c:fld x=0
 . rw[if_pos (by omega),if_pos c,if_pos c]; simp; omega
 rw[if_neg (by omega),if_neg c,if_neg c,Gb]
theorem Q14{x:Nat}(h:x<2^64):kz (key x)=sgI x (rm (x%2^63)):=by
 unfold kz sgI;rw[g0o h];by_cases c:2^63<=x
 . rw[if_pos c];by_cases z:key x<0
   . rw[if_pos z]
   rw[if_neg z];have:x%2^63=0:=by unfold key at z; split at z<;>omega
   rw[this,o0k]; rfl
 rw[if_neg c,if_neg (by unfold key; rw[if_pos (by omega)]; omega)]
theorem M0t{x m:Nat}(hx:x<2^64)(hm:m<2^64):u64.wrap (BitVec.toNat ((BitVec.ofInt u64.bits (x:Int)) &&& (BitVec.ofInt u64.bits (m:Int))))=((x &&& m:Nat):Int):=by
 have h2:x &&& m<=x:=Nat.and_le_left;rw[BitVec.toNat_and,S0h hx,S0h hm];exact y0d (by omega)
theorem N0t{x k:Nat}:Int.fdiv (x:Int) ((2^k:Nat):Int)=((x / 2^k:Nat):Int):=by
 rw[Bd _ (Cg _),<-Int.natCast_ediv]
theorem C0k(x:Nat):1<=up1 x/\up1 x<=2047:=by
 have:fld x<2048:=by unfold fld; omega
 unfold up1;by_cases c:fld x=0
 . rw[if_pos c]; omega
 rw[if_neg c]; omega
theorem X11(x:Nat):(if(1:Int)>(fld x:Int)then(1:Int)else(fld x:Int))=(up1 x:Int):=by
 unfold up1;by_cases c:fld x=0
 . rw[if_pos (by omega),if_pos c]; rfl
 rw[if_neg (by omega),if_neg c]
def fq(x:Nat):Rat:=(kz (key x):Rat) / ((2^1074:Nat):Rat)
theorem P0m{V:View}{x:Nat}(h:finW x):a00 prog Z0r #[.float .f64 x] V λv V'=>∃r:WhV,v = .tuple #[r.val,.int .i64 ((up1 x:Int)-1075)]/\d07 V' r (sgI x (mant x)):=by
 have h64:=h.1;have hfl:fld x<2048:=by unfold fld; omega
 have hp52:(2:Int)^(min (Int.toNat 52) u64.bits)=((2^52:Nat):Int):=by decide
 have hp63:(2:Int)^(min (Int.toNat 63) u64.bits)=((2^63:Nat):Int):=by decide
 have e1:i64.wrap (u64.wrap (BitVec.toNat ((BitVec.ofInt u64.bits (Int.fdiv (x:Int) (2^(min (Int.toNat 52) (u64.bits))))) &&& (BitVec.ofInt u64.bits 2047))))=(fld x:Int):=by
  have:=M0t (x:=x / 2^52) (m:=2047) (by omega) (by omega);have e:x / 2^52 &&& 2047=fld x:=Dl (x / 2^52) 11;rw[e]at this;rw[hp52,N0t];rw[show(((2047:Nat)):Int)=2047 from rfl]at this;rw[this,i64w (by omega) (by omega)]
 have e2:u64.wrap (BitVec.toNat ((BitVec.ofInt u64.bits (x:Int)) &&& (BitVec.ofInt u64.bits 4503599627370495)))=((x%2^52:Nat):Int):=by
  have:=M0t (x:=x) (m:=4503599627370495) (by omega) (by omega);have e:x &&& 4503599627370495=x%2^52:=Dl x 52;rw[e]at this;exact this
 have e3:((Int.fdiv (x:Int) (2^(min (Int.toNat 63) (u64.bits))):Int)==1)=decide (2^63<=x):=by
  rw[hp63,N0t];by_cases c:2^63<=x
  . have:x / 2^63=1:=by omega
    rw[this,Aq c]; rfl
  have:x / 2^63=0:=by omega
  rw[this,Ao c]; rfl
 refine K0p x V _ ⟨x,t0o x,?_⟩;rw[e1,e2,e3];have hw:∀ {V1:View} {s:Sl} {n:Nat},x02 V1 s n->n=mant x->a00 prog c0d #[.bool (decide (2^63<=x)),s.v] V1 λv V'=>∃r:WhV,v=r.val/\d07 V' r (sgI x (mant x)):=by
  intro V1 s n hs hn;refine(s04 (decide (2^63<=x)) hs).mono λv V2 _ ⟨r,hv,hr⟩=>⟨r,hv,?_⟩;subst hn;unfold sgI;by_cases c:2^63<=x
  . rw[Aq c]at hr; rw[if_pos c]; simpa using hr
  rw[Ao c]at hr; rw[if_neg c]; simpa using hr
 refine⟨λhc => ?_,λhc => ?_⟩
 . simp only[Af]at hc;have e4:u64.wrap (BitVec.toNat ((BitVec.ofInt u64.bits ((x%2^52:Nat):Int)) ||| (BitVec.ofInt u64.bits 4503599627370496)))=((mant x:Nat):Int):=by
    have:=p0y (x:=x%2^52) (m:=4503599627370496) (by omega) (by omega);have hor:=Dt (i:=52) (b:=x%2^52) (by omega) 1;have e:x%2^52 ||| 4503599627370496=mant x:=by
     rw[Nat.or_comm];have h1:2^52*1=4503599627370496:=by decide
     rw[h1]at hor;rw[<-hor]; unfold mant; rw[if_neg (by omega)]; omega
    rw[e]at this;exact this
   rw[e4];have:=u0o x;refine(f08 (n:=((mant x:Nat):Int)) (by omega) (by omega)).mono λv V1 _ ⟨s,hv,hs⟩=>⟨s,hv,?_⟩;refine(hw hs (by omega)).mono λv V2 _ ⟨r,hv,hr⟩=>⟨r,hv,r,?_,hr⟩;have hu:=C0k x;rw[X11 x,i64w (by omega) (by omega)]
 simp only[Ac]at hc;have hf0:fld x=0:=by omega
 have em:x%2^52=mant x:=by unfold mant; rw[if_pos hf0]
 rw[em];have:=u0o x;refine(f08 (n:=((mant x:Nat):Int)) (by omega) (by omega)).mono λv V1 _ ⟨s,hv,hs⟩=>⟨s,hv,?_⟩;refine(hw hs (by omega)).mono λv V2 _ ⟨r,hv,hr⟩=>⟨r,hv,r,?_,hr⟩;have hu:=C0k x;rw[X11 x,i64w (by omega) (by omega)]
theorem U0a(k:Nat):bl (2^k)<=k+1:=k02 (by rw[Ba]; have:0<2^k:=Bi (by omega); omega)
theorem i13(x k:Nat):bl (mant x*2^k)<=54+k:=by
 have h1:=y0i (mant x) (2^k);have h2:bl (mant x)<=53:=k02 (u0o x);have h3:=U0a k;omega
theorem u0y(x a b:Nat):sgI x a*(b:Int)=sgI x (a*b):=by
 unfold sgI; split
 . rw[Int.neg_mul,Cc]
 rw[Cc]
theorem H0s(x a:Nat):(sgI x a).natAbs=a:=by unfold sgI; split<;>omega
theorem w0y:(2^1074:Nat)≠0:=by
 exact Nat.pos_iff_ne_zero.1 (Bi (a:=2) (n:=1074) (by omega))
theorem x0y{x k:Nat}{n:Nat}(h:x<2^64)(hn:(n:Int)=(up1 x:Int)-1075+k):fq x=(sgI x (mant x*2^n):Rat) / ((2^k:Nat):Rat):=by
 have hk:(2^k:Nat)≠0:=by
  have:0<2^k:=Bi (by omega);omega
 unfold fq;rw[x03 w0y hk,Q14 h,g13,u0y,u0y];have:=C0k x;have e:up1 x-1+k=n+1074:=by omega
 rw[Bj,Bj,<-Av 2 (up1 x-1) k,<-Av 2 n 1074,e]
theorem I15{x:Nat}{z:Rat}{k n j m:Nat}{y:Nat}(h:x<2^64)(hy:y<2^64)(hn:(n:Int)=(up1 x:Int)-1075+k)(hm:(m:Int)=(up1 y:Int)-1075+k):Rep ⟨fq x,fq y⟩ (sgI x (mant x*2^n)) (sgI y (mant y*2^m)) (2^k) :=
 ⟨by have : 0 < 2 ^ k := Bi (by omega)
     omega,x0y h hn,x0y hy hm⟩
theorem Q0m{V:View}{b:Nat}(hb:V b=some #[.int .u32 1]):x02 V ⟨some ⟨b,0,none⟩,1,1⟩ 1:=by
 have:dig 1=[1]:=by rw[T07 (by omega)]; simp[n06]
 unfold x02; rw[this];exact Ha (by rw[hb]; rfl) rfl (An9 _) (by intro d hd; simp at hd; omega)
theorem Y11:wn 1<=2^43:=wn64 (by omega)
theorem M0q{V:View}{c:CxV}(h1:finW c.re)(h2:finW c.im) :
 a00 prog E0n #[.complex .f64 c.re c.im] V λv V'=>∃r:NumV,v = .tuple #[r.val,.int .i64 0]/\Q00 V' r ⟨fq c.re,fq c.im⟩:=by
 have f1:decide (c.re%2^63<infR)=true:=Aq h1.2;have f2:decide (c.im%2^63<infR)=true:=Aq h2.2;have u1:=C0k c.re;have u2:=C0k c.im;refine z0l c V _ ((B0k h1.1).mono λv V1 l1 hv=>⟨_,hv,λhc => ?_,λ_ => ?_⟩)
 . rw[f1]at hc; simp at hc
 refine(B0k h2.1).mono λv V2 l2 hv=>⟨_,hv,λhc => ?_,λ_ => ?_⟩
 . rw[f2]at hc; simp at hc
 refine(P0m h1).mono λv V3 l3 ⟨a,hv,ha⟩=>⟨a,_,hv,?_⟩;refine(P0m h2).mono λv V4 l4 ⟨b,hv,hb⟩=>⟨b,_,hv,?_⟩;obtain⟨k,hk,hk2⟩:∃k:Nat,(if(i64.wrap (0-((up1 c.im:Int)-1075)):Int)>(if(i64.wrap (0-((up1 c.re:Int)-1075)):Int)>0 then i64.wrap (0-((up1 c.re:Int)-1075))else 0)then i64.wrap (0-((up1 c.im:Int)-1075))else(if(i64.wrap (0-((up1 c.re:Int)-1075)):Int)>0 then i64.wrap (0-((up1 c.re:Int)-1075))else 0))=(k:Int)/\1075-(up1 c.re:Int)<=k/\1075-(up1 c.im:Int)<=k/\k<=1074:=by
  rw[i64w (n:=0-((up1 c.im:Int)-1075)) (by omega) (by omega),i64w (n:=0-((up1 c.re:Int)-1075)) (by omega) (by omega)];by_cases g1:0-((up1 c.re:Int)-1075)>0
  . rw[if_pos g1];by_cases g2:0-((up1 c.im:Int)-1075)>0-((up1 c.re:Int)-1075)
    . rw[if_pos g2]; exact⟨(0-((up1 c.im:Int)-1075)).toNat,by omega,by omega,by omega,by omega⟩
    rw[if_neg g2]; exact⟨(0-((up1 c.re:Int)-1075)).toNat,by omega,by omega,by omega,by omega⟩
  rw[if_neg g1];by_cases g2:0-((up1 c.im:Int)-1075)>0
  . rw[if_pos g2]; exact⟨(0-((up1 c.im:Int)-1075)).toNat,by omega,by omega,by omega,by omega⟩
  rw[if_neg g2]; exact⟨0,by omega,by omega,by omega,by omega⟩
 rw[hk];obtain⟨n,hn⟩:∃n:Nat,(n:Int)=(up1 c.re:Int)-1075+k:=⟨((up1 c.re:Int)-1075+k).toNat,by omega⟩;obtain⟨m,hm⟩:∃m:Nat,(m:Int)=(up1 c.im:Int)-1075+k:=⟨((up1 c.im:Int)-1075+k).toNat,by omega⟩;have w1:i64.wrap ((up1 c.re:Int)-1075+k)=(n:Int):=by rw[i64w (by omega) (by omega),hn]
 have w2:i64.wrap ((up1 c.im:Int)-1075+k)=(m:Int):=by rw[i64w (by omega) (by omega),hm]
 rw[w1,w2];have ma:=ha.2;have mb:=hb.2;rw[H0s]at ma mb;have wa:∀x,wn (mant x)<=2^43:=λx=>wn64 (by have:=u0o x; omega)
 have wb:∀x j,j<=4000->wn (mant x*2^j)<=2^43:=λx j hj=>j0k (by have:=i13 x j; omega)
 have neg:∀(y:Nat) (r:WhV),d07 V4 r (sgI y (mant y))->mant y≠0->r.neg=decide (2^63<=y):=by
  intro y r hr h0;rw[hr.1];unfold sgI;by_cases g:2^63<=y
  . rw[if_pos g,Aq g,Aq (by omega)]
  rw[if_neg g,Ao g,Ao (by omega)]
 have whole:∀ {W:View} {s:Sl} (y:Nat) (r:WhV) (j:Nat),d07 V4 r (sgI y (mant y))->x02 W s (mant y*2^j)->a00 prog c0d #[.bool r.neg,s.v] W λv V'=>∃q:WhV,v=q.val/\d07 V' q (sgI y (mant y*2^j)):=by
  intro W s y r j hr hs;refine(s04 r.neg hs).mono λv V' _ ⟨q,hv,hq⟩=>⟨q,hv,?_⟩;by_cases h0:mant y=0
  . rw[h0,Cy]at hq ⊢;have e:(if r.neg=true then -((0:Nat):Int)else((0:Nat):Int))=0:=by split<;>rfl
    rw[e]at hq;have e2:sgI y 0=0:=by unfold sgI; split<;>rfl
    rw[e2]; exact hq
  rw[neg y r hr h0]at hq;unfold sgI;by_cases g:2^63<=y
  . rw[if_pos g]; rw[Aq g]at hq; simpa using hq
  rw[if_neg g]; rw[Ao g]at hq; simpa using hq
 have ha4:=ha.le l4;have wa44:∀x,wn (mant x)<=2^44:=λx=>Ah (wa x) (by decide)
 refine(G05 (ma.le l4) (wa44 c.re) (by omega)).mono λv V5 l5 ⟨s,hv,hs⟩=>⟨s,hv,?_⟩;refine(whole c.re a n ha4 hs).mono λv V6 l6 ⟨p,hv,hp⟩=>⟨p,hv,?_⟩;refine(G05 (mb.le (Gx l5 l6)) (wa44 c.im) (by omega)).mono λv V7 l7 ⟨s',hv,hs'⟩=>⟨s',hv,?_⟩;refine(whole c.im b m hb hs').mono λv V8 l8 ⟨q,hv,hq⟩=>⟨q,hv,λb1 V9 l9 hf hb1 => ?_⟩;have one:x02 V9 ⟨some ⟨b1,0,none⟩,1,1⟩ 1:=Q0m hb1;refine(G05 one (Ah Y11 (by decide)) (by omega:k<=2^44)).mono λv V10 l10 ⟨s2,hv,hs2⟩=>⟨s2,hv,?_⟩;rw[Ea]at hs2;have R:=I15 (z:=0) (j:=0) h1.1 h2.1 hn hm;refine(A05 (hp.le (Gx l7 (Gx l8 (Gx l9 l10)))) (hq.le (Gx l9 l10)) hs2 R (by rw[H0s]; exact wb _ _ (by omega)) (by rw[H0s]; exact wb _ _ (by omega)) (j0k (by have:=U0a k; omega))).mono λv V11 l11 ⟨r,hv,hr⟩=>⟨r,hv,r,rfl,hr⟩
theorem B0z{z:Cq}{A B:Int}{D:Nat}(h:Rep z A B D):Rep ⟨z.re,0⟩ A 0 D:=⟨h.pos,h.re,by simp[Bm]⟩
theorem C0z{z:Cq}{A B:Int}{D:Nat}(h:Rep z A B D):Rep ⟨z.im,0⟩ B 0 D:=⟨h.pos,h.im,by simp[Bm]⟩
theorem S14(z:Cq):(⟨z.re,0⟩:Cq).sz<=z.sz+1 :=
 (B0z z.canon.rep).sz (by have:=z.szA; omega) (by rw[Gi,l0e]; omega) (by have:=z.szD; omega)
theorem T14(z:Cq):(⟨z.im,0⟩:Cq).sz<=z.sz+1 :=
 (C0z z.canon.rep).sz (by have:=z.szB; omega) (by rw[Gi,l0e]; omega) (by have:=z.szD; omega)
theorem D0k{V:View}{x:NumV}{z:Cq}(h:Q00 V x z)(hz:z.sz<=2^40):a00 prog Q0z #[x.val] V λv V'=>∃r:NumV,v=r.val/\Q00 V' r ⟨z.re,0⟩:=by
 have zA:=Cq.wA hz; have zB:=Cq.wB hz; have zD:=Cq.wD hz;refine f0x x V _ ((d03 h).mono λv V1 l1 ⟨d,hv,hd⟩=>⟨d,hv,?_⟩);exact(A05 (h.re.le l1) (d07.zero V1) hd (B0z z.canon.rep) (by omega) (by rw[Gi,s0d]; omega) (by omega)).mono λv V2 _ ⟨r,hv,hr⟩=>⟨r,hv,r,rfl,hr⟩
theorem E0k{V:View}{x:NumV}{z:Cq}(h:Q00 V x z)(hz:z.sz<=2^40):a00 prog T0z #[x.val] V λv V'=>∃r:NumV,v=r.val/\Q00 V' r ⟨z.im,0⟩:=by
 have zA:=Cq.wA hz; have zB:=Cq.wB hz; have zD:=Cq.wD hz;refine g0x x V _ ((d03 h).mono λv V1 l1 ⟨d,hv,hd⟩=>⟨d,hv,?_⟩);exact(A05 (h.im.le l1) (d07.zero V1) hd (C0z z.canon.rep) (by omega) (by rw[Gi,s0d]; omega) (by omega)).mono λv V2 _ ⟨r,hv,hr⟩=>⟨r,hv,r,rfl,hr⟩
theorem Z11{z:Cq}:z.A=0↔z.re=0:=by
 have h:=z.canon.rep;have hD:=H06 h.pos;rw[h.re];constructor
 . intro e; rw[e]; simp[Bm]
 intro e;have:(z.A:Rat)=0:=by
  have:(z.A:Rat)=(z.A:Rat) / (z.D:Rat)*(z.D:Rat):=by rw[Fm9 hD]
  rw[this,e]; simp
 exact_mod_cast this
theorem B_zero{z:Cq}:z.B=0↔z.im=0:=by
 have h:=z.canon.rep;have hD:=H06 h.pos;rw[h.im];constructor
 . intro e; rw[e]; simp[Bm]
 intro e;have:(z.B:Rat)=0:=by
  have:(z.B:Rat)=(z.B:Rat) / (z.D:Rat)*(z.D:Rat):=by rw[Fm9 hD]
  rw[this,e]; simp
 exact_mod_cast this
theorem e07{V:View}{x:NumV}{z:Cq}(h:Q00 V x z)(hz:z.sz<=2^40):a00 prog L0j #[x.val] V λv _=>v = .bool (decide (z≠Cq.zero)):=by
 have zA:=Cq.wA hz; have zB:=Cq.wB hz;refine L0p x V _ ?_;have a1:=h.re.2.len; have a2:=h.im.2.len;have b1:=h.re.2.len_zero; have b2:=h.im.2.len_zero;have c1:x.re.mag.len<=2^50:=by
  have:x.re.mag.len=wn z.A.natAbs:=by rw[wn]; exact a1.symm▸rfl
  omega
 have c2:x.im.mag.len<=2^50:=by
  have:x.im.mag.len=wn z.B.natAbs:=by rw[wn]; exact a2.symm▸rfl
  omega
 rw[i64w (by omega) (by omega)];have d1:x.re.mag.len=0↔z.re=0:=by rw[b1,<-Z11]; omega
 have d2:x.im.mag.len=0↔z.im=0:=by rw[b2,<-B_zero]; omega
 have e:(z≠Cq.zero)↔((x.re.mag.len:Int)+(x.im.mag.len:Int)>0):=by
  constructor
  . intro hne;rcases Ap x.re.mag.len with p|p
    . rcases Ap x.im.mag.len with q|q
      . exact absurd (Hb (d1.1 p) (d2.1 q)) hne
      omega
    omega
  rintro hp rfl;have p:=d1.2 rfl; have q:=d2.2 rfl;omega
 simp only[e]
theorem Rep.div{z w:Cq}{A B a b:Int}{D d n:Nat}(hw:Rep w A B D)(ht:Rep (z*⟨(A:Rat),-(B:Rat)⟩) a b d)(hn:(n:Int)=A*A+B*B)(h0:n≠0):Rep (z.div w) (a*D) (b*D) (d*n):=by
 have hD:=H06 hw.pos;have hd:=H06 ht.pos;have hn0:=H06 h0;have hN:(n:Rat)=(A:Rat)*A+B*B:=by exact_mod_cast hn
 have t1:=ht.re; have t2:=ht.im;rw[F01]at t1; rw[G01]at t2;dsimp only at t1 t2;refine⟨Bz ht.pos h0,?_,?_⟩
 . show(z.re*w.re+z.im*w.im) / (w.re*w.re+w.im*w.im)=_;rw[hw.re,hw.im,Rat.intCast_mul,Rat.natCast_mul,Fi];have e1:z.re*((A:Rat) / (D:Rat))+z.im*((B:Rat) / (D:Rat))=(a:Rat) / (d:Rat) / (D:Rat):=by rw[<-t1]; grind
   have e2:(A:Rat) / (D:Rat)*((A:Rat) / (D:Rat))+(B:Rat) / (D:Rat)*((B:Rat) / (D:Rat))=(n:Rat) / ((D:Rat)*(D:Rat)):=by rw[hN]; grind
   rw[e1,e2]; grind
 show(z.im*w.re-z.re*w.im) / (w.re*w.re+w.im*w.im)=_;rw[hw.re,hw.im,Rat.intCast_mul,Rat.natCast_mul,Fi];have e1:z.im*((A:Rat) / (D:Rat))-z.re*((B:Rat) / (D:Rat))=(b:Rat) / (d:Rat) / (D:Rat):=by rw[<-t2]; grind
 have e2:(A:Rat) / (D:Rat)*((A:Rat) / (D:Rat))+(B:Rat) / (D:Rat)*((B:Rat) / (D:Rat))=(n:Rat) / ((D:Rat)*(D:Rat)):=by rw[hN]; grind
 rw[e1,e2]; grind
theorem f0i(A B:Int):Rep ⟨(A:Rat),-(B:Rat)⟩ A (-B) 1:=by
 refine⟨by omega,?_,?_⟩
 . rw[Bm]; simp; grind
 rw[Bm]; simp; grind
theorem U09{V:View}{x y:NumV}{z w:Cq}(hx:Q00 V x z)(hy:Q00 V y w)(hz:z.sz<=2^36)(hw:w.sz<=2^36) :
 a00 prog p0p #[x.val,y.val] V λv V'=>∃(r:NumV) (e:Int),v = .tuple #[r.val,.int .i64 e]/\(w=Cq.zero->e=3/\Q00 V' r Cq.zero)/\(w≠Cq.zero->e=0/\Q00 V' r (z.div w)):=by
 have hw40:w.sz<=2^40:=by omega
 have wA:=Cq.wA hw40; have wB:=Cq.wB hw40; have wD:=Cq.wD hw40;have sA:=w.szA; have sB:=w.szB; have sD:=w.szD;refine y0v x y V _ ((e07 hy hw40).mono λv V1 l1 hv=>⟨_,hv,λhc => ?_,λhc => ?_⟩)
 . have hc:w=Cq.zero:=by simpa using hc
   exact⟨_,_,rfl,λ_=>⟨rfl,Q00.zero V1⟩,λh=>absurd hc h⟩
 have hc:w≠Cq.zero:=by simpa using hc
 replace hx:=hx.le l1; replace hy:=hy.le l1;have m1:=U07 wA wA; have m2:=U07 wB wB;refine(W05 hy.re hy.re (by omega) (by omega)).mono λv V2 l2 ⟨r2,hv,h2⟩=>⟨r2,hv,?_⟩;replace hx:=hx.le l2; replace hy:=hy.le l2;refine(W05 hy.im hy.im (by omega) (by omega)).mono λv V3 l3 ⟨r3,hv,h3⟩=>⟨r3,hv,?_⟩;replace hx:=hx.le l3; replace hy:=hy.le l3; replace h2:=h2.le l3;refine(J06 h2 h3 (by omega) (by omega)).mono λv V4 l4 ⟨r4,hv,h4⟩=>⟨r4,hv,?_⟩;replace hx:=hx.le l4; replace hy:=hy.le l4;refine(t04 hy.im).mono λv V5 l5 ⟨r5,hv,h5⟩=>⟨r5,hv,λb1 V6 l6 _ hb1 => ?_⟩;replace hx:=hx.le (Gx l5 l6); replace hy:=hy.le (Gx l5 l6); replace h4:=h4.le (Gx l5 l6); replace h5:=h5.le l6;refine(A05 hy.re h5 (Q0m hb1) (f0i w.A w.B) (by omega) (by rw[Cn]; omega) Y11).mono λv V7 l7 ⟨r6,hv,h6⟩=>⟨r6,hv,?_⟩;replace hx:=hx.le l7; replace hy:=hy.le l7; replace h4:=h4.le l7;have cs:(⟨(w.A:Rat),-(w.B:Rat)⟩:Cq).sz<=2^36+1:=(f0i w.A w.B).sz (by omega) (by rw[Cn]; omega) (by rw[s0x]; omega);refine(m03 hx h6 (by omega) (by omega)).mono λv V8 l8 ⟨r7,hv,h7⟩=>⟨r7,hv,?_⟩;replace hy:=hy.le l8; replace h4:=h4.le l8;have ts:=D02 z ⟨(w.A:Rat),-(w.B:Rat)⟩;have ts40:(z*⟨(w.A:Rat),-(w.B:Rat)⟩).sz<=2^40:=by omega
 have tA:=Cq.wA ts40; have tB:=Cq.wB ts40; have tD:=Cq.wD ts40;refine(d03 hy).mono λv V9 l9 ⟨r8,hv,h8⟩=>⟨r8,hv,?_⟩;replace hy:=hy.le l9; replace h4:=h4.le l9; replace h7:=h7.le l9;refine(M02 h7.re h8 (by omega) (by omega)).mono λv V10 l10 ⟨r9,hv,h9⟩=>⟨r9,hv,?_⟩;replace hy:=hy.le l10; replace h4:=h4.le l10; replace h7:=h7.le l10;refine(d03 hy).mono λv V11 l11 ⟨r10,hv,h10⟩=>⟨r10,hv,?_⟩;replace h4:=h4.le l11; replace h7:=h7.le l11; replace h9:=h9.le l11;refine(M02 h7.im h10 (by omega) (by omega)).mono λv V12 l12 ⟨r11,hv,h11⟩=>⟨r11,hv,?_⟩;replace h4:=h4.le l12; replace h7:=h7.le l12; replace h9:=h9.le l12;refine(d03 h7).mono λv V13 l13 ⟨r12,hv,h12⟩=>⟨r12,hv,?_⟩;replace h4:=h4.le l13; replace h9:=h9.le l13; replace h11:=h11.le l13;have n1:=z0k m1 m2;refine(P09 h12 h4.2 (by omega) (by omega)).mono λv V14 l14 ⟨r13,hv,h13⟩=>⟨r13,hv,?_⟩;replace h9:=h9.le l14; replace h11:=h11.le l14;have p1:=j0e (z*⟨(w.A:Rat),-(w.B:Rat)⟩).D (w.A*w.A+w.B*w.B).natAbs;have q1:=U07 tA (b:=(w.D:Int)) (by rw[Bf]; exact wD);have q2:=U07 tB (b:=(w.D:Int)) (by rw[Bf]; exact wD);have hsq:(0:Int)<=w.A*w.A+w.B*w.B:=Int.add_nonneg (by rw[<-Ed]; exact Cg _) (by rw[<-Ed]; exact Cg _);refine(A05 h9 h11 h13 (Rep.div w.canon.rep (z*⟨(w.A:Rat),-(w.B:Rat)⟩).canon.rep (Int.natAbs_of_nonneg hsq) ?_) (by omega) (by omega) (by omega)).mono λv V15 _ ⟨r,hv,hr⟩=>⟨r,hv,r,_,rfl,λh=>absurd h hc,λ_=>⟨rfl,hr⟩⟩;intro h0;have e0:w.A*w.A+w.B*w.B=0:=Int.natAbs_eq_zero.1 h0;have a0:w.A=0:=by
  by_cases h:w.A=0
  . exact h
  have:0<w.A*w.A:=by
    have:0<w.A.natAbs*w.A.natAbs:=Nat.mul_pos (by omega) (by omega);rw[<-Ed]; exact_mod_cast this
  have:(0:Int)<=w.B*w.B:=by rw[<-Ed]; exact Cg _
  omega
 have b0:w.B=0:=by
  rw[a0]at e0;have:w.B*w.B=0:=by omega
  rcases Int.mul_eq_zero.1 this with h|h<;>exact h
 exact hc (Hb (Z11.1 a0) (B_zero.1 b0))
theorem E0f{z w:Cq}{S:Nat}(hz:z.sz<=S)(hw:w.sz<=S):(z.div w).sz<=4*S+8:=by
 have sA:=w.szA; have sB:=w.szB; have sD:=w.szD;have cs:(⟨(w.A:Rat),-(w.B:Rat)⟩:Cq).sz<=S+1:=(f0i w.A w.B).sz (by omega) (by rw[Cn]; omega) (by rw[s0x]; omega);have ts:=D02 z ⟨(w.A:Rat),-(w.B:Rat)⟩;have tA:=(z*⟨(w.A:Rat),-(w.B:Rat)⟩:Cq).szA; have tB:=(z*⟨(w.A:Rat),-(w.B:Rat)⟩:Cq).szB; have tD:=(z*⟨(w.A:Rat),-(w.B:Rat)⟩:Cq).szD;have hsq:(0:Int)<=w.A*w.A+w.B*w.B:=Int.add_nonneg (by rw[<-Ed]; exact Cg _) (by rw[<-Ed]; exact Cg _);by_cases h0:(w.A*w.A+w.B*w.B).natAbs=0
 . have:z.div w=Cq.zero:=by
     have hr:=w.canon.rep;have e0:w.A*w.A+w.B*w.B=0:=Int.natAbs_eq_zero.1 h0;have hn:w.norm=0:=by
      unfold Cq.norm;rw[hr.re,hr.im];have:(w.A:Rat)*w.A+w.B*w.B=0:=by exact_mod_cast e0
      have hD:=H06 hr.pos;grind
     refine Hb ?_ ?_
     . show _ / w.norm=0; rw[hn]; simp[Bm]
     show _ / w.norm=0; rw[hn]; simp[Bm]
   rw[this]; have:=K06; omega
 refine(Rep.div w.canon.rep (z*⟨(w.A:Rat),-(w.B:Rat)⟩).canon.rep (Int.natAbs_of_nonneg hsq) h0).sz ?_ ?_ ?_
 . have:=i0a (z*⟨(w.A:Rat),-(w.B:Rat)⟩).A (w.D:Int); rw[Bf]at this; omega
 . have:=i0a (z*⟨(w.A:Rat),-(w.B:Rat)⟩).B (w.D:Int); rw[Bf]at this; omega
 have h1:=y0i (z*⟨(w.A:Rat),-(w.B:Rat)⟩).D (w.A*w.A+w.B*w.B).natAbs;have h2:=i0k (a:=w.A*w.A) (b:=w.B*w.B) (k:=2*S) (Ah (i0a _ _) (by omega)) (Ah (i0a _ _) (by omega));omega
def okN(z:Cq):Prop:=z.sz<=2^36
def atN(V:View)(n:NumV)(z:Cq):Prop:=Q00 V n z
theorem atN.le{V V':View}(h:V.le V'){n:NumV}{z:Cq}(k:atN V n z):atN V' n z:=Q00.le h k
theorem elN{V:View}{x:List Value}{z:Cq}(h:numC V x z):∃n:NumV,x=n.val.cells.toList/\atN V n z:=h
theorem y0y{V:View}{n:NumV}{z:Cq}(h:atN V n z):numC V n.val.cells.toList z:=⟨n,rfl,h⟩
theorem lenN(n:NumV):n.val.cells.toList.length=5:=rfl
theorem oneN{V:View}{x:List Value}{z:Cq}(h:numC V x z):∀v∈x,Value.oneCell' v=true:=by
 obtain⟨n,e,_⟩:=h;subst e;intro v hv;rw[k0k]at hv;simp only[Bq,Cp,Eq9]at hv;rcases hv with rfl|rfl|rfl|rfl|rfl<;>rfl
theorem zeroN(V:View):numC V [Value.bool false,Value.slice none 0 0,Value.bool false,Value.slice none 0 0,Value.slice none 0 0] Cq.zero:=⟨_,rfl,Q00.zero V⟩
theorem U14{V:View}{n:NumV}{z:Cq}(h:atN V n z)(hz:okN z):a00 prog L0j #[n.val] V λv _=>v = .bool (numO.clr z):=e07 h (by unfold okN at hz; omega)
theorem divN{V:View}{n k:NumV}{z w:Cq}(h:atN V n z)(h':atN V k w)(hz:okN z)(hw:okN w)(hc:numO.clr w=true) :
 a00 prog p0p #[n.val,k.val] V λv V'=>∃r:NumV,v = .tuple #[r.val,.int .i64 0]/\atN V' r (numO.div z w):=by
 refine(U09 h h' hz hw).mono λv V' _ ⟨r,e,hv,_,h2⟩ => ?_;obtain⟨g1,g2⟩:=h2 (p0j.1 hc);subst g1;exact⟨r,hv,g2⟩
theorem z0y{x y u:Cq}(hx:okN x)(hy:okN y)(hu:okN u):(Cq.div x y).sz<=4*2^36+8/\(Cq.div x y*u).sz<=5*2^36+9:=by
 have h1:=E0f hx hy;have h2:=D02 (Cq.div x y) u;unfold okN at hu;omega
theorem J15{V:View}{n k:NumV}{x y u:Cq}(h:atN V n (numO.div x y))(h':atN V k u)(hx:okN x)(hy:okN y)(hu:okN u) :
 a00 prog M0j #[n.val,k.val] V λv V'=>∃r:NumV,v=r.val/\atN V' r (numO.mul (numO.div x y) u):=by
 have hs:=z0y hx hy hu;exact m03 (z:=Cq.div x y) (w:=u) h h' (by omega) (by unfold okN at hu; omega)
theorem K15{V:View}{n k:NumV}{z x y u:Cq}(h:atN V n z)(h':atN V k (numO.mul (numO.div x y) u))(hz:okN z)(hx:okN x)(hy:okN y)(hu:okN u) :
 a00 prog N0j #[n.val,k.val] V λv V'=>∃r:NumV,v=r.val/\atN V' r (numO.sub z (numO.mul (numO.div x y) u)):=by
 have hs:=z0y hx hy hu;exact D07 (z:=z) (w:=Cq.div x y*u) h h' (by unfold okN at hz; omega) (by omega)
theorem mulN{V:View}{n k:NumV}{x y:Cq}(h:atN V n x)(h':atN V k y)(hx:okN x)(hy:okN y) :
 a00 prog M0j #[n.val,k.val] V λv V'=>∃r:NumV,v=r.val/\atN V' r (numO.mul x y) :=
 m03 (z:=x) (w:=y) h h' (by unfold okN at hx; omega) (by unfold okN at hy; omega)
theorem subN{V:View}{n k:NumV}{x y z:Cq}(h:atN V n x)(h':atN V k (numO.mul y z))(hx:okN x)(hy:okN y)(hz:okN z) :
 a00 prog N0j #[n.val,k.val] V λv V'=>∃r:NumV,v=r.val/\atN V' r (numO.sub x (numO.mul y z)):=by
 have:=D02 y z;unfold okN at hx hy hz;exact D07 (z:=x) (w:=y*z) h h' (by omega) (by omega)
theorem L15{V:View}{o:List Value}{row:List Bool}(h:f01 1 boolC V o row):∀v∈o,Value.oneCell' v=true:=by
 induction row generalizing o with
 | nil=>rw[show o=[]from h]; simp
 | cons z zs ih =>
   obtain⟨x,o',e,hx,hp,ht⟩:=h;subst e;intro v hv;rw[Cb]at hv;rcases hv with hv|hv
   . exact oneL hp v hv
   exact ih ht v hv
theorem F0k{m V:View}{s:Sl}{row:List Bool}{o:List Value}(hC:f01 1 boolC V o row)(ho:has2 m V s.a o)(hl:s.len=row.length)(ha:s.a=none->row=[])(hb:row.length<=2^30) :
 f03 prog o07 #[s.v] m V λv m' V'=>∃(r:Sl) (b:Nat),v=r.v/\RowR 1 boolC m' V' r b row/\(row≠[]->m b=none)/\(∀i,i≠b\/row=[]->m' i=m i):=by
 refine z0a m s V _ ⟨trivial,λh => ?_,λh b1 V1 l1 hf hb1 => ?_⟩
 . have e:=ha (by simpa using h);exact⟨⟨none,0,0⟩,0,rfl,⟨by rw[e]; rfl,An9 _,λ_=>rfl,λh=>absurd e h⟩,λh=>absurd e h,λ_ _=>rfl⟩
 have hol:=hC.length;refine⟨[],o,⟨An9 _,λh=>by simp at h⟩,.inl (by intro j v hj; simp at hj),by simp,P0d l1 ho,by rw[hol,hl],L15 hC,by unfold maxLen; omega,by omega,λh1 h2=>by omega,λa1 c1 m1 ha1 => ?_⟩;have hC1:f01 1 boolC V1 o row:=hC.imp (boolC.le l1);obtain⟨b,hr,hb2,hm,hm2⟩:=c0i hC1 rfl hl ha1;exact⟨_,b,rfl,hr,hb2,λi hi=>by
  rcases hi with hi|hi
  . exact hm i hi
  rw[hm2 hi]⟩
theorem I0s{V:View}{s:Sl}{row:List Bool}(h:n00 1 boolC V s row)(hb:row.length<=2^30) :
 a00 prog o07 #[s.v] V λv V'=>∃r:Sl,v=r.v/\n00 1 boolC V' r row:=by
 obtain⟨hl,hc,hn,o,ho,hC⟩:=h;refine f03.known (F0k (m:=λ_=>none) hC (.inr ho) hl (λe => ?_) hb) λv m V' V2 l e ap ⟨r,b,hv,hr,_⟩=>⟨r,hv,?_⟩
 . rcases Gu (row=[])with g|g
   . exact g
   have:=hn g; rw[e]at this; simp at this
 subst e;exact hr.known (boolC.le (W0a ap)) (λb cs g=>I07 g)
theorem T0h{V:View}{p:Sl}{rows:List (List Bool)}(h:c01 1 boolC V p rows) :
 a00 prog f0c #[p.v] V λv V'=>∃g:x00,v = .tuple #[g.val,.int .i64 (u0f rows)]/\c01 1 boolC V' g.rows (o0e rows):=by
 have hl:p.len=rows.length:=h.len;have bad:∀V':View,y05 rows=false->∃g:x00,Value.tuple #[(x00.mk (Sl.mk none 0 0)).val,.int .i64 4] = .tuple #[g.val,.int .i64 (u0f rows)]/\c01 1 boolC V' g.rows (o0e rows):=λV' e=>by
  refine⟨⟨⟨none,0,0⟩⟩,?_,?_⟩
  . unfold u0f; rw[e]; rfl
  unfold o0e; rw[e]; exact n00.nil
 refine H0b p V _ (λ_ _ _=>1<=rows.length/\rows.length<=64)
  (λ_ x V'=>∃(t:Nat) (l:List Value),x.t18=t/\t<=rows.length/\G02 1 x.o4_0l x.o4_0c x.o45 l/\x.o4_0l=t/\f01 1 (λV x row=>∃s:Sl,x=[s.v]/\n00 1 boolC V s row) V' l (rows.take t)/\∀row∈rows.take t,B07 (T01 rows) row=true)
  (λ_ x _=>rows.length-x.t18.toNat) ?_
 rw[hl];refine⟨⟨λc=>bad V ?_,λc=>⟨λc'=>bad V ?_,λc' => ?_⟩⟩,?_⟩
 . unfold y05;have c:=Ak c;have:decide (1<=rows.length)=false:=Ao (by omega);rw[this]; rfl
 . unfold y05;have c':=Ak c';have:decide (rows.length<=64)=false:=Ao (by omega);rw[this,Do9,Bs]
 . have c:=Al c;have c':=Al c';omega
 rintro⟨o2⟩ V1 l1 ⟨n1,n2⟩;refine⟨⟨0,[],rfl,by omega,Hg,rfl,rfl,by simp⟩,?_⟩;rintro⟨t18,o2',k,c,o⟩ V2 l2 ⟨t,l,et,ht,hL,ek,hC,hall⟩;dsimp only at et hL ek hC ⊢;subst et; subst ek;have L2:=Gx l1 l2;refine⟨λhlt => ?_,λhge => ?_⟩
 . have hk:k<rows.length:=by simp at hlt; omega
   have ek:rows[k]?=some rows[k]:=Ae hk;have hmem:=Ax hk;obtain⟨g,s,h1,h2⟩:=(Hi boolC.le L2 h).row (t:=(k:Int)) (by omega) (row:=rows[k]) (by rw[Aa]; exact ek);have hs:s.len=rows[k].length:=h2.len;rw[hl]at g;have tk:rows.take (k+1)=rows.take k++[rows[k]]:=by rw[Ce,ek]; rfl
   generalize rows[k]=row at *;have no:B07 (T01 rows) row=false->y05 rows=false:=λe=>by
    unfold y05;rw[Fr9.2 ⟨row,hmem,by rw[e]; simp⟩,Bs,Bs]
   refine⟨g,s,h1,λc1=>bad V2 (no ?_),λc1=>⟨λc2=>bad V2 (no ?_),λc2 => ?_⟩⟩
   . unfold B07;have c1:=Ak c1;have:decide (1<=row.length)=false:=Ao (by omega);rw[this]; rfl
   . unfold B07;have c2:=Ak c2;have:decide (row.length<=64)=false:=Ao (by omega);rw[this,Do9,Bs]
   obtain⟨row0,e0,e1⟩:=I0a (rows:=rows) (by omega);obtain⟨g0,s0,h3,h4⟩:=(Hi boolC.le L2 h).row (t:=(0:Int)) (by omega) (row:=row0) e0;have hs0:s0.len=T01 rows:=by rw[<-e1]; exact h4.len
   rw[hl]at g0;refine⟨g0,s0,h3,λc3=>bad V2 (no ?_),λc3 => ?_⟩
   . unfold B07;have:decide (row.length=T01 rows)=false:=Ao (λe=>by rw[hs,hs0,e]at c3; simp at c3);rw[this,Bs,Bs]
   have ok:B07 (T01 rows) row=true:=by
    have c1:=Al c1;have c2:=Al c2;have c3:row.length=T01 rows:=by rw[hs,hs0]at c3; simp at c3; omega
    unfold B07;rw[Aq (show 1<=row.length by omega),Aq (show row.length<=64 by omega),Aq c3]; rfl
   refine(I0s h2 (by have:=Al c2; omega)).mono λv V3 l3 ⟨r1,hv,hr⟩=>⟨r1,hv,λb1 V4 l4 _ hb1 => ?_⟩;have hnew:V4.has (some (Addr.mk b1 0 none)) [r1.v]:=e05 (cs:=[r1.v]) (j:=0) hb1 (λi v hv=>by rw[Am]; exact hv) rfl;refine⟨l,_,hL,hnew,rfl,by intro v hv; simp at hv; subst hv; rfl,by unfold maxLen; omega,by omega,λc1 l3' hl3 => ?_⟩;rw[i64w (by omega) (by omega)];have L24:=Gx l3 l4;refine⟨⟨k+1,_,by omega,by omega,hl3,rfl,?_,λrow' hr' => ?_⟩,by omega⟩
   . rw[tk];exact(hC.imp λ_ _ ⟨s,e,hs⟩=>⟨s,e,He (boolC.le L24) L24 hs⟩).append (Hd rfl ⟨_,rfl,He (boolC.le l4) l4 hr⟩)
   rw[tk]at hr';rcases Cb.1 hr' with hr'|hr'
   . exact hall row' hr'
   rw[show row'=row by simpa using hr']; exact ok
 have e:k=rows.length:=by simp at hge; omega
 subst e;rw[Cu]at hC hall;intro b2 V5 l5 hb2;have ok:y05 rows=true:=by
  unfold y05;simp only[By,Af,Bk9];exact⟨n1,n2,hall⟩
 refine⟨⟨⟨lstA b2 c,rows.length,c⟩⟩,by unfold u0f; rw[ok]; rfl,?_⟩;unfold o0e; rw[if_pos ok];exact k04 hL hb2 (hC.imp λ_ _ ⟨s,e,hs⟩=>⟨s,e,He (boolC.le l5) l5 hs⟩) rfl
theorem F0f{V:View}{g:x00}{rows:List (List Bool)}(h:c01 1 boolC V g.rows rows) :
 a00 prog d0a #[g.val] V λv _=>v = .tuple #[.int .i64 (rows.length:Int),.int .i64 (T01 rows:Int)]:=by
 have hl:g.rows.len=rows.length:=h.len;refine f09 g V _ ⟨λc => ?_,λc => ?_⟩
 . have e:rows=[]:=Dc.1 (by simp at c; omega);subst e; rfl
 obtain⟨row0,e0,e1⟩:=I0a (rows:=rows) (by simp at c; omega);obtain⟨g0,s0,h3,h4⟩:=h.row (t:=(0:Int)) (by omega) (row:=row0) e0;refine⟨g0,s0,h3,?_⟩;rw[h4.len,e1,hl]
theorem X0i{V:View}{s:Sl}{p:Option Addr}{k:Nat}(hp:V.load p=some (.int .i64 (k:Int))) :
 a00 prog E06 #[s.v,.pointer p] V λv _=>v = .bool (decide (s.len≠k)):=by
 refine l0c s p V _ ⟨_,hp,?_⟩;congr 1;by_cases e:s.len=k
 . subst e; simp
 simp[e]; omega
theorem c0h{V:View}{p:Sl}{rows:List (List Cq)}(h:c01 5 numC V p rows)(hn:rows.length<=2^40)(q:Fn1){k:Nat}(hp:V.load q.p0=some (.int .i64 (k:Int))) :
 a00 prog f07 #[p.v,q.val E06] V λv _=>∃r:Int,v = .int .i64 r/\(0<=r↔∃row,row∈rows/\row.length≠k):=by
 have hl:p.len=rows.length:=h.len;refine I03 p q V _ (λ_ x _=>∃t:Nat,x.t8=t/\t<=rows.length/\∀row,row∈rows.take t->row.length=k) (λ_ x _=>rows.length-x.t8.toNat) ⟨⟨0,rfl,by omega,by simp⟩,?_⟩;rintro⟨t⟩ V1 l1 ⟨t',ht,htn,hi⟩;dsimp only at ht ⊢;subst ht;refine⟨λhlt => ?_,λhge => ?_⟩
 . simp only[Af]at hlt;have hk:t'<rows.length:=by omega
   obtain⟨g1,s,g2,g3⟩:=(h.le Hh l1).row (t:=(t':Int)) (by omega) (row:=rows[t']) (by simp);refine⟨g1,s,g2,(X0i (H02 l1 hp)).mono λv V2 l2 hv=>⟨_,hv,λhr=>⟨_,rfl,?_⟩,λhr => ?_⟩⟩
   . have hne:=Ak hr;rw[g3.len]at hne;exact⟨λ_=>⟨rows[t'],Ax hk,hne⟩,λ_=>by omega⟩
   have he:s.len=k:=by simpa using hr
   rw[g3.len]at he;rw[i64w (by omega) (by omega)];refine⟨⟨t'+1,by omega,by omega,λrow hrow => ?_⟩,by omega⟩;rw[Ce,Ae hk]at hrow;simp only[Fo,Cb,Ca]at hrow;rcases hrow with hrow|hrow
   . exact hi row hrow
   subst hrow; exact he
 simp only[Ac]at hge;have e:t'=rows.length:=by omega
 subst e;rw[Cu]at hi;exact⟨-1,rfl,λh=>absurd h (by omega),λ⟨row,h1,h2⟩=>absurd (hi row h1) h2⟩
theorem F0e{V:View}{p:Sl}{rows:List (List Cq)}(h:c01 5 numC V p rows)(hn:rows.length<=2^40)(q:Fn1){k:Nat}(hp:V.load q.p0=some (.int .i64 (k:Int))) :
 a00 prog L06 #[p.v,q.val E06] V λv _=>v = .bool (rows.any λrow=>decide (row.length≠k)):=by
 refine n03 p q V _ ((c0h h hn q hp).mono λv V1 l1 ⟨r,hv,hr⟩=>⟨r,hv,?_⟩);congr 1;rw[Bool.eq_iff_iff];simp only[Du,Af,List.any_eq_true];exact hr
def k0a(rows:List (List Cq)):Nat:=(rows.headD []).length
def G0k(rows:List (List Cq)):Bool:=rows.isEmpty||(decide (rows.length<=32)&&decide (k0a rows<=32) && !(rows.any λrow=>decide (row.length≠k0a rows)))
theorem s0a{V:View}{p:Sl}{rows:List (List Cq)}(h:c01 5 numC V p rows)(hn:rows.length<=2^40) :
 a00 prog I0d #[p.v] V λv _=>v = .tuple #[.int .i64 (k0a rows:Int),.bool (G0k rows)]:=by
 have hl:p.len=rows.length:=h.len;refine g0d p V _ ⟨λh0 => ?_,λh0 => ?_⟩
 . have e:rows=[]:=Dc.1 (by simp at h0; omega);subst e; rfl
 have hne:0<rows.length:=by simp at h0; omega
 obtain⟨row,rest,e⟩:∃row rest,rows=row::rest:=by
  cases rows with
  | nil=>simp at hne
  | cons a l=>exact⟨a,l,rfl⟩
 obtain⟨g1,s,g2,g3⟩:=h.row (t:=(0:Int)) (by omega) (row:=row) (by subst e; rfl);refine⟨g1,s,g2,λb1 V1 l1 hb1 => ?_⟩;have hld:V1.load (some (Addr.mk b1 0 none))=some (.int .i64 (s.len:Int)):=by
  have:=g09 (j:=0) hb1;simpa [Addr.add]using this
 have hs:s.len=k0a rows:=by subst e; exact g3.len
 rw[hs]at hld;have hE:rows.isEmpty=false:=by subst e; rfl
 refine⟨_,hld,λh1=>⟨_,hld,λh2 => ?_,λh2 => ?_⟩,λh1 => ?_⟩
 . simp only[Af]at h1 h2;refine(F0e (h.le Hh l1) hn ⟨some (Addr.mk b1 0 none)⟩ hld).mono λv V2 l2 hv=>⟨_,hv,?_⟩;have e1:decide (rows.length<=32)=true:=by simp; omega
   have e2:decide (k0a rows<=32)=true:=by simp; omega
   simp only[G0k,hE,e1,e2,Gp,Fe]
 . simp only[Ac]at h2;have e2:decide (k0a rows<=32)=false:=by simp; omega
   simp only[G0k,hE,e2,Gp,Bs,Do9]
 simp only[Ac]at h1;have e1:decide (rows.length<=32)=false:=by simp; omega
 simp only[G0k,hE,e1,Gp,Do9]
theorem G0e{V:View}{p:Sl}{rows:List (List Cq)}(h:c01 5 numC V p rows)(hn:rows.length<=2^40) :
 a00 prog D08 #[p.v] V λv _=>v = .bool (G0k rows&&decide (k0a rows=rows.length)):=by
 have hl:p.len=rows.length:=h.len;refine G0c p V _ ((s0a h hn).mono λv V1 l1 hv=>⟨_,_,hv,λh1 => ?_,λh1 => ?_⟩)
 . rw[h1,Fe,hl];congr 1;by_cases e:k0a rows=rows.length
   . simp[e]
   simp[e]; omega
 rw[h1,Do9]
theorem N15{V:View}{o:List Value}{row:List Cq}(h:f01 5 numC V o row):∀v∈o,Value.oneCell' v=true:=by
 induction row generalizing o with
 | nil=>rw[show o=[]from h]; simp
 | cons z zs ih =>
   obtain⟨x,o',e,hx,hp,ht⟩:=h;subst e;intro v hv;rw[Cb]at hv;rcases hv with hv|hv
   . exact oneN hp v hv
   exact ih ht v hv
theorem O08{m V:View}{s:Sl}{row:List Cq}{o:List Value}(hC:f01 5 numC V o row)(ho:has2 m V s.a o)(hl:s.len=row.length)(ha:s.a=none->row=[])(hb:row.length<=2^30) :
 f03 prog Z05 #[s.v] m V λv m' V'=>∃(r:Sl) (b:Nat),v=r.v/\RowR 5 numC m' V' r b row/\(row≠[]->m b=none)/\(∀i,i≠b\/row=[]->m' i=m i):=by
 refine q08 m s V _ ⟨trivial,λh => ?_,λh b1 V1 l1 hf hb1 => ?_⟩
 . have e:=ha (by simpa using h);exact⟨⟨none,0,0⟩,0,rfl,⟨by rw[e]; rfl,An9 _,λ_=>rfl,λh=>absurd e h⟩,λh=>absurd e h,λ_ _=>rfl⟩
 have hol:=hC.length;refine⟨[],o,⟨An9 _,λh=>by simp at h⟩,.inl (by intro j v hj; simp at hj),by simp,P0d l1 ho,by rw[hol,hl],N15 hC,by unfold maxLen; omega,by omega,λh1 h2=>by omega,λa1 c1 m1 ha1 => ?_⟩;have hC1:f01 5 numC V1 o row:=hC.imp (Hh l1);obtain⟨b,hr,hb2,hm,hm2⟩:=c0i hC1 rfl hl ha1;exact⟨_,b,rfl,hr,hb2,λi hi=>by
  rcases hi with hi|hi
  . exact hm i hi
  rw[hm2 hi]⟩
def d09(A:Nat->Nat->Cq)(w:Nat)(C:Nat->Nat->Cq):Nat->Nat->Cq:=λi k=>if k<w then A i k else C (k-w) i
theorem f0g{V:View}{p q:Sl}{n w u:Nat}{A C:Nat->Nat->Cq}(h:c01 5 numC V p (matL n w A))(hq:c01 5 numC V q (matL u n C))(hn:n<=2^20)(hw:w<=2^20)(hu:u<=2^20) :
 f03 prog X0d #[p.v,q.v] (λ_=>none:View) V λv m' V'=>∃r:Sl,v=r.v/\MatR 5 numC m' V' r n (w+u) (d09 A w C):=by
 have hl:p.len=n:=by have:=h.len; rw[O00]at this; exact this
 have hql:q.len=u:=by have:=hq.len; rw[O00]at this; exact this
 refine L0d (λ_=>none) p q V _ (λ_ x V'=>∃t:Nat,x.t15=t/\t<=n/\x.o12.length=n/\x04 5 numC x.o0 V' x.o12 t (λi=>rowL (w+u) (d09 A w C i))) (λ_ x _=>n-x.t15.toNat)
  (λc x V'=>∃t k:Nat,c.t15=t/\t<n/\x.t27=k/\k<=u/\x.o12.length=n/\x04 5 numC x.o0 V' x.o12 (t+1) (λi=>if i=t then rowL (w+k) (d09 A w C i)else rowL (w+u) (d09 A w C i))) (λ_ x _=>u-x.t27.toNat) ?_
 rw[hl];refine⟨⟨by omega,by omega,by omega,by omega⟩,⟨0,rfl,by omega,by simp,c0t _ _ _ _⟩,?_⟩;rintro⟨t15,o0,o12⟩ V1 l1 ⟨t,ht,htn,hlen,hR⟩;dsimp only at ht hlen hR ⊢;subst ht;refine⟨λhlt => ?_,λhge => ?_⟩
 . simp only[Af]at hlt;have hk:t<n:=by omega
   obtain⟨g1,s,g2,g3⟩:=(h.le Hh l1).row (t:=(t:Int)) (by omega) (row:=rowL w (A t)) (by rw[Aa]; exact W06 hk A);rw[hl]at g1;obtain⟨o,ho,hC⟩:=g3.cells;refine⟨g1,s,.inr g2,?_⟩;refine(O08 hC (.inr ho) g3.len (λe => ?_) (by rw[B00]; omega)).mono λv m1 V2 l2 _ ⟨r,b,hv,hr,hb,hm⟩=>⟨r,hv,⟨by omega,by omega⟩,by rw[hlen,Aa]; omega,?_,?_⟩
   . by_cases e2:rowL w (A t)=[]
     . exact e2
     have:=g3.some e2; rw[e]at this; simp at this
   . refine⟨t,0,rfl,hk,rfl,by omega,by simp[hlen],?_⟩;have:=(hR.le Hh l2).push (by omega) hr hb hm;have e1:(0+Int.toNat (t:Int)*1)=t:=by omega
     rw[e1];refine this.congr λi hi => ?_;by_cases e:i=t
     . subst e;simp only[Az,Dm];exact I06 λk hk=>by simp[d09,hk]
     simp[e]
   rintro⟨t27,o0',o12'⟩ V3 l3 ⟨t',k,ht',htn',hk27,hku,hlen',hR'⟩;dsimp only at ht' hk27 hlen' hR' ⊢;have:t'=t:=by omega
   subst this;subst hk27;rw[hql];refine⟨λhlt2 => ?_,λhge2 => ?_⟩
   . simp only[Af]at hlt2;have hku2:k<u:=by omega
     have lq:=Gx l1 (Gx l2 l3);obtain⟨q1,s2,q2,q3⟩:=(hq.le Hh lq).row (t:=(k:Int)) (by omega) (row:=rowL n (C k)) (by rw[Aa]; exact W06 hku2 C);rw[hql]at q1;obtain⟨s3,e3,r1,r2,r3,⟨o3,r4,r5,r6⟩,r7⟩:=hR'.row (i:=t') (by omega);obtain⟨c1,x,hx,hxl,hh,hs⟩:=Hf q3 (t:=(t':Int)) (by omega) (z:=C k t') (by rw[Aa]; exact M04 hk _);obtain⟨y,ey,hy⟩:=elN hx;subst ey;simp only[Az]at r1 r6;rw[B00]at r1;refine⟨q1,s2,.inr q2,⟨by omega,by omega⟩,s3,by rw[Aa,Ct,Am]; exact e3,c1,y,.inr hh,hs,λb1 V4 l4 hf4 hb4 => ?_⟩;have hnew:V4.has (some (Addr.mk b1 0 none)) y.val.cells.toList:=by
      refine e05 (cs:=y.val.cells.toList) (j:=0) hb4 (λi v hv=>by rw[Am]; exact hv) rfl
     refine⟨o3,_,⟨r2,r3⟩,P0d l4 r4,r5,.inr hnew,by rw[hxl],oneN (Hh l4 _ _ hx),by unfold maxLen; omega,by omega,λ_ h2=>r7 1 (by omega) h2,λa1 c1 m2 ha=>⟨⟨by omega,by omega⟩,by rw[hlen',Aa]; omega,?_⟩⟩;have:=(hR'.le Hh l4).app (i:=t') (by omega) e3 hxl (Hh l4 _ _ hx) (o':=o3) (by simp only[Az]; exact r6.imp (Hh l4)) ha;rw[i64w (by omega) (by omega)];refine⟨⟨t',k+1,rfl,htn',by omega,by omega,by simp[hlen'],?_⟩,by omega⟩;have e1:(0+Int.toNat (t':Int)*1)=t':=by omega
     rw[e1];refine this.congr λi hi => ?_;by_cases e:i=t'
     . subst e;simp only[Az];rw[show C k i=d09 A w C i (w+k)by unfold d09; rw[if_neg (by omega),Nat.add_sub_cancel_left],K0c]; rfl
     simp[e]
   simp only[Ac]at hge2;have e:k=u:=by omega
   subst e;rw[i64w (by omega) (by omega)];refine⟨⟨t'+1,by omega,by omega,hlen',hR'.congr λi hi => ?_⟩,by omega⟩;by_cases e:i=t'<;>simp[e]
 simp only[Ac]at hge;intro b3 hb3 hb4;have e:t=n:=by omega
 subst e;rw[Aa];exact⟨_,rfl,hR.mat hlen hb3⟩
theorem N0d{m V:View}{p:Sl}{n w:Nat}{A:Nat->Nat->Cq}(Q:Nat->Cq->Prop)(h:MatR 5 numC m V p n w A)(hn:n<=w)(hw:w<=2^20)
 (q1:∀c x,c<=n->Q c x->okN x) (q2:∀c x y z u,Q c x->Q c y->Q c z->Q c u->Q (c+1) (numO.sub x (numO.mul (numO.div y z) u))) (q3:∀c x,Q c x->Q (c+1) x) (hA:∀i j,i<n->j<w->Q 0 (A i j)) :
 f03 prog x0c #[p.v] m V λv m' V'=>v = .tuple #[.int .i64 ((elim numO n w A).2.1:Nat),.int .i64 (match (elim numO n w A).2.2 with|none => -1|some c=>(c:Int))]/\MatR 5 numC m' V' p n w (elim numO n w A).1:=by
 have hl:=h.len;refine m0c m p V _
  (λ_ x V'=>∃(c s:Nat) (B:Nat->Nat->Cq),x.t13=c/\x.t4=s/\c<=n/\s<=c/\MatR 5 numC x.o0 V' p n w B/\j08 numO n w (n-c) c B s=elim numO n w A/\∀i j,i<n->j<w->Q c (B i j))
  (λ_ x _=>n-x.t13.toNat)
  (λc x V'=>∃(k s:Nat) (B:Nat->Nat->Cq),c.t13=k/\c.t4=s/\k<n/\s<=k/\MatR 5 numC c.o0 V' p n w B/\j08 numO n w (n-k) k B s=elim numO n w A/\(∀i j,i<n->j<w->Q k (B i j))/\x.t6=(pivF numO B k n:Nat))
  (λc x V'=>∃(k s:Nat) (B:Nat->Nat->Cq) (t:Nat),c.t13=k/\c.t4=s/\k<n/\s<=k/\MatR 5 numC c.o0 V' p n w B/\j08 numO n w (n-k) k B s=elim numO n w A/\(∀i j,i<n->j<w->Q k (B i j))/\x.t6=t/\k<=t/\t<=n/\∀q,k<=q->q<t->numO.clr (B q k)=false)
  (λ_ x _=>n-x.t6.toNat)
  (λc x V'=>∃(k s:Nat) (B:Nat->Nat->Cq),c.t13=k/\x.t4=s/\k<n/\s<=k+1/\MatR 5 numC x.o0 V' p n w B/\j08 numO n w (n-(k+1)) (k+1) (colF numO w B k n) s=elim numO n w A/\(∀i j,i<n->j<w->Q k (B i j))/\numO.clr (B k k)=true)
  (λc x V'=>∃(k s:Nat) (B:Nat->Nat->Cq) (R:Nat),c.t13=k/\c.t4=s/\k<n/\s<=k+1/\x.t7=R/\k<R/\R<=n/\MatR 5 numC x.o0 V' p n w (colF numO w B k R)/\j08 numO n w (n-(k+1)) (k+1) (colF numO w B k n) s=elim numO n w A/\(∀i j,i<n->j<w->Q k (B i j))/\numO.clr (B k k)=true)
  (λ_ x _=>n-x.t7.toNat)
  (λc x V'=>∃(k s:Nat) (B:Nat->Nat->Cq) (R K:Nat),c.t13=k/\c.t4=s/\k<n/\s<=k+1/\c.t7=R/\k<R/\R<n/\x.t10=K/\k<K/\K<=w/\atN V' c.o8 (numO.div (B R k) (B k k)) /\
    MatR 5 numC x.o0 V' p n w (rowF numO (colF numO w B k R) k R (numO.div (B R k) (B k k)) K)/\j08 numO n w (n-(k+1)) (k+1) (colF numO w B k n) s=elim numO n w A/\(∀i j,i<n->j<w->Q k (B i j))/\numO.clr (B k k)=true)
  (λ_ x _=>w-x.t10.toNat) ?_
 rw[hl];refine⟨⟨0,0,A,rfl,rfl,by omega,by omega,h,by rw[Ge]; rfl,hA⟩,?_⟩;rintro⟨t4,t13,o0⟩ V1 l1 ⟨c,s,B,e13,e4,hc,hs,hM,hE,hQ⟩;dsimp only at e13 e4 hM ⊢;subst e13; subst e4;refine⟨λhlt=>⟨⟨⟨c,s,B,c,rfl,rfl,by simp at hlt; omega,hs,hM,hE,hQ,rfl,by omega,hc,λq h1 h2=>by omega⟩,?_⟩,?_⟩,λhge => ?_⟩
 ·
   rintro⟨t6⟩ V3 l3 ⟨k,s',B',t,e13,e4,hk,hs',hM',hE',hQ',e6,h1,h2,h3⟩;dsimp only at e13 e4 e6 hM' ⊢;obtain rfl:c=k:=by omega
   obtain rfl:s=s':=by omega
   subst e6;refine⟨λhlt2 => ?_,λhge2 => ?_⟩
   . simp only[Af]at hlt2;have ht:t<n:=by omega
     obtain⟨g1,sl,g2,g3,g4,g5,g6,g7,g8⟩:=hM'.row ht;obtain⟨x,hx,hxl,hh,hsm⟩:=g7 c (by omega);obtain⟨y,ey,hy⟩:=elN hx;subst ey;refine⟨⟨by omega,by omega,g1⟩,sl,.inl (by rw[Aa]; exact g2),⟨by omega,by omega,g5 (by omega)⟩,y,by rw[Aa]; exact hh,by rw[Aa]; exact hsm,?_⟩;refine(U14 hy (q1 c _ (by omega) (hQ' t c ht (by omega)))).mono λv V4 l4 hv=>⟨_,hv,λhb => ?_,λhb => ?_⟩
     . rw[i64w (by omega) (by omega)];refine⟨⟨c,s,B',t+1,rfl,rfl,hk,hs',hM'.le Hh l4,hE',hQ',by omega,by omega,by omega,λq hq1 hq2 => ?_⟩,by omega⟩;by_cases e:q=t
       . subst e; simpa using hb
       exact h3 q hq1 (by omega)
     refine⟨c,s,B',rfl,rfl,hk,hs',hM'.le Hh l4,hE',hQ',?_⟩;rw[H0x numO B' h1 h2 h3 (λ_=>by simpa using hb)]
   simp only[Ac]at hge2;have e:t=n:=by omega
   refine⟨c,s,B',rfl,rfl,hk,hs',hM',hE',hQ',?_⟩;rw[H0x numO B' h1 h2 h3 (λh=>by omega)]
 ·
   rintro⟨t6⟩ V2 l2 ⟨k,s',B',e13,e4,hk,hs',hM',hE',hQ',e6⟩;dsimp only at e13 e4 e6 hM' ⊢;obtain rfl:c=k:=by omega
   obtain rfl:s=s':=by omega
   subst e6;obtain⟨p1,p2,p3,p4⟩:=L0c numO B' (c:=c) (n:=n) (by omega);refine⟨λheq => ?_,λhne=>⟨⟨λhsw => ?_,λhns => ?_⟩,?_⟩⟩
   . have e:pivF numO B' c n=n:=by simp at heq; omega
     rw[<-hE',K0v numO n w hk B' s e];exact⟨rfl,hM'⟩
   . have hpn:pivF numO B' c n<n:=by simp at hne; omega
     have hpc:pivF numO B' c n≠c:=by simp at hsw; omega
     obtain⟨g1,sc,g2,_⟩:=hM'.row hk;obtain⟨_,sp,k2,_⟩:=hM'.row hpn;obtain⟨b1,c1,l1',u1,u2,u3,b2,c2,l2',u4,u5,u6,u7⟩:=hM'.swap (by omega) hk hpn g2 k2;refine⟨⟨by omega,by omega,g1⟩,sc,.inl (by rw[Aa]; exact g2),⟨by omega,by omega,g1⟩,sp,.inl (by rw[Aa]; exact k2),⟨by omega,by omega,g1⟩,b1,c1,l1',by rw[Aa]; exact u1,u2,u3,⟨by omega,by omega,g1⟩,b2,c2,l2',by rw[Aa]; exact u4,u5,u6,?_⟩;rw[B0t numO n w hk B' s (by omega),if_neg hpc]at hE';have ep:q0a B' c (pivF numO B' c n)=w0f B' c (pivF numO B' c n):=by unfold q0a; rw[if_neg hpc]
     rw[i64w (by omega) (by omega)];refine⟨c,s+1,w0f B' c (pivF numO B' c n),rfl,by omega,hk,by omega,u7,by rw[<-ep]; exact hE',λi j hi hj => ?_,?_⟩
     . unfold w0f;split
       . exact hQ' _ j hpn hj
       split
       . exact hQ' _ j hk hj
       exact hQ' i j hi hj
     simp only[w0f,Az]; exact p4 hpn
   . have hpc:pivF numO B' c n=c:=by simp at hns; omega
     have hpn:pivF numO B' c n<n:=by omega
     rw[B0t numO n w hk B' s (by omega),if_pos hpc]at hE';have ep:q0a B' c (pivF numO B' c n)=B':=by unfold q0a; rw[if_pos hpc]
     rw[ep]at hE';exact⟨c,s,B',rfl,rfl,hk,by omega,hM',hE',hQ',by have:=p4 hpn; rw[hpc]at this; exact this⟩
   ·
     clear p1 p2 p3 p4 hE' hQ' hM';rintro⟨t4',o0'⟩ V5 l5 ⟨k,s2,B2,e13',e4',hk2,hs2,hM2,hE2,hQ2,hcl⟩;dsimp only at e13' e4' hM2 ⊢;obtain rfl:c=k:=by omega
     subst e4';refine⟨⟨c,s2,B2,c+1,rfl,rfl,hk,hs2,by rw[i64w (by omega) (by omega)]; omega,by omega,by omega,by rw[I0v]; exact hM2,hE2,hQ2,hcl⟩,?_⟩;clear hM2 hE2 hQ2 hcl;rintro⟨t7,o0''⟩ V6 l6 ⟨k,s3,B3,R,f13,f4,hk3,hs3,f7,hkR,hRn,hM3,hE3,hQ3,hcl3⟩;dsimp only at f13 f4 f7 hM3 ⊢;obtain rfl:c=k:=by omega
     obtain rfl:s2=s3:=by omega
     subst f7;refine⟨λhlt2 => ?_,λhge2 => ?_⟩
     . simp only[Af]at hlt2;have hR:R<n:=by omega
       obtain⟨g1,sr,g2,g3,g4,g5,g6,g7,g8⟩:=hM3.row hR;obtain⟨_,sc,k2,k3,k4,k5,k6,k7,k8⟩:=hM3.row hk;obtain⟨x,hx,hxl,hh,hsm⟩:=g7 c (by omega);obtain⟨x',hx',hxl',hh',hsm'⟩:=k7 c (by omega);rw[A0t]at hx;rw[z0t]at hx';obtain⟨y,ey,hy⟩:=elN hx;obtain⟨y',ey',hy'⟩:=elN hx';subst ey; subst ey';refine⟨⟨by omega,by omega,g1⟩,sr,.inl (by rw[Aa]; exact g2),⟨by omega,by omega,g5 (by omega)⟩,y,by rw[Aa]; exact hh,by rw[Aa]; exact hsm,
        ⟨by omega,by omega,g1⟩,sc,.inl (by rw[Aa]; exact k2),⟨by omega,by omega,k5 (by omega)⟩,y',by rw[Aa]; exact hh',by rw[Aa]; exact hsm',?_⟩
       have qR:=hQ3 R c hR (by omega);have qc:=hQ3 c c hk (by omega);refine(divN hy hy' (q1 c _ (by omega) qR) (q1 c _ (by omega) qc) hcl3).mono λv V7 l7 ⟨r2,hv,hr2⟩=>⟨r2,0,hv,⟨c,s2,B3,R,c+1,rfl,rfl,hk,hs3,rfl,hkR,hR,by rw[i64w (by omega) (by omega)]; omega,by omega,by omega,hr2,?_,hE3,hQ3,hcl3⟩,?_⟩
       . rw[J0v]; exact hM3.le Hh l7
       clear hM3 g1 g2 g3 g4 g5 g6 g7 g8 k2 k3 k4 k5 k6 k7 k8 hh hsm hh' hsm' hx hx' hy hy';rintro⟨t10,o0'''⟩ V8 l8 ⟨k,s4,B4,R',K,d13,d4,hk4,hs4,d7,hkR4,hR4,d10,hkK,hKw,hf,hM4,hE4,hQ4,hcl4⟩;dsimp only at d13 d4 d7 d10 hf hM4 ⊢;obtain rfl:c=k:=by omega
       obtain rfl:s2=s4:=by omega
       obtain rfl:R=R':=by omega
       subst d10;obtain⟨g1,sr,g2,g3,g4,g5,g6,g7,g8⟩:=hM4.row hR;refine⟨⟨by omega,by omega,g1⟩,sr,.inl (by rw[Aa]; exact g2),λhlt3 => ?_,λhge3 => ?_⟩
       . simp only[Af]at hlt3;have hK:K<w:=by omega
         obtain⟨_,sc,k2,k3,k4,k5,k6,k7,k8⟩:=hM4.row hk;obtain⟨x,hx,hxl,hh,hsm⟩:=g7 K hK;obtain⟨x',hx',hxl',hh',hsm'⟩:=k7 K hK;rw[A14,A0t]at hx;rw[z14 numO _ _ _ (by omega),z0t]at hx';obtain⟨y,ey,hy⟩:=elN hx;obtain⟨y',ey',hy'⟩:=elN hx';subst ey; subst ey';have qR:=hQ4 R c hR (by omega);have qc:=hQ4 c c hk (by omega);have qRK:=hQ4 R K hR hK;have qcK:=hQ4 c K hk hK;refine⟨⟨by omega,by omega,g1⟩,sr,.inl (by rw[Aa]; exact g2),⟨by omega,by omega,g1⟩,sr,.inl (by rw[Aa]; exact g2),⟨by omega,by omega,g5 (by omega)⟩,y,by rw[Aa]; exact hh,by rw[Aa]; exact hsm,
          ⟨by omega,by omega,g1⟩,sc,.inl (by rw[Aa]; exact k2),⟨by omega,by omega,k5 (by omega)⟩,y',by rw[Aa]; exact hh',by rw[Aa]; exact hsm',?_⟩
         refine(J15 hf hy' (q1 c _ (by omega) qR) (q1 c _ (by omega) qc) (q1 c _ (by omega) qcK)).mono λv V9 l9 ⟨r4,hv,hr4⟩=>⟨r4,hv,?_⟩;refine(K15 (atN.le l9 hy) hr4 (q1 c _ (by omega) qRK) (q1 c _ (by omega) qR) (q1 c _ (by omega) qc) (q1 c _ (by omega) qcK)).mono λv V10 l10 ⟨r5,hv,hr5⟩=>⟨r5,hv,⟨by omega,by omega,g5 (by omega)⟩,?_⟩;obtain⟨v1,v2,b3,c3,l3,v3,v4,v5,v6⟩:=(hM4.le Hh (Gx l9 l10)).put hR hK (lenN r5) (y0y hr5) g2;refine⟨b3,c3,l3,by rw[Aa]; exact v3,v4,v5,?_⟩;rw[i64w (by omega) (by omega)];refine⟨⟨c,s2,B4,R,K+1,rfl,rfl,hk,hs4,rfl,hkR,hR,by omega,by omega,by omega,atN.le (Gx l9 l10) hf,?_,hE4,hQ4,hcl4⟩,by omega⟩;have e:=I0x numO (colF numO w B4 c R) (c:=c) (R:=R) (numO.div (B4 R c) (B4 c c)) hkK;rw[<-e,A0t,z0t]; exact v6
       simp only[Ac]at hge3;have e:K=w:=by omega
       subst e;rw[i64w (by omega) (by omega)];rw[m10 numO K B4 hkR]at hM4;exact⟨⟨c,s2,B4,R+1,rfl,rfl,hk,hs4,by omega,by omega,by omega,hM4,hE4,hQ4,hcl4⟩,by omega⟩
     simp only[Ac]at hge2;have e:R=n:=by omega
     subst e;rw[i64w (by omega) (by omega)];refine⟨⟨c+1,s2,colF numO w B3 c R,by omega,rfl,by omega,hs3,hM3,hE3,λi j hi hj => ?_⟩,by omega⟩;unfold colF;split
     . exact q2 c _ _ _ _ (hQ3 i j hi hj) (hQ3 i c hi (by omega)) (hQ3 c c hk (by omega)) (hQ3 c j hk hj)
     exact q3 c _ (hQ3 i j hi hj)
 simp only[Ac]at hge;have e:c=n:=by omega
 subst e;rw[J0x]at hE;rw[<-hE];exact⟨rfl,hM⟩
theorem G0l{V:View}{s:Sl}{row:List Cq}(h:n00 5 numC V s row)(hb:row.length<=2^30) :
 a00 prog Z05 #[s.v] V λv V'=>∃r:Sl,v=r.v/\n00 5 numC V' r row:=by
 obtain⟨hl,hc,hn,o,ho,hC⟩:=h;refine f03.known (O08 (m:=λ_=>none) hC (.inr ho) hl (λe => ?_) hb) λv m V' V2 l e ap ⟨r,b,hv,hr,_⟩=>⟨r,hv,?_⟩
 . rcases Gu (row=[])with g|g
   . exact g
   have:=hn g; rw[e]at this; simp at this
 subst e;exact hr.known (Hh (W0a ap)) (λb cs g=>I07 g)
theorem X07{V:View}{p:Sl}{rows:List (List Cq)}(h:c01 5 numC V p rows) :
 a00 prog x0a #[p.v] V λv V'=>∃g:x00,v = .tuple #[g.val,.int .i64 (u0f rows)]/\c01 5 numC V' g.rows (o0e rows):=by
 have hl:p.len=rows.length:=h.len;have bad:∀V':View,y05 rows=false->∃g:x00,Value.tuple #[(x00.mk (Sl.mk none 0 0)).val,.int .i64 4] = .tuple #[g.val,.int .i64 (u0f rows)]/\c01 5 numC V' g.rows (o0e rows):=λV' e=>by
  refine⟨⟨⟨none,0,0⟩⟩,?_,?_⟩
  . unfold u0f; rw[e]; rfl
  unfold o0e; rw[e]; exact n00.nil
 refine f0a p V _ (λ_ _ _=>1<=rows.length/\rows.length<=64)
  (λ_ x V'=>∃(t:Nat) (l:List Value),x.t18=t/\t<=rows.length/\G02 1 x.o4_0l x.o4_0c x.o45 l/\x.o4_0l=t/\f01 1 (λV x row=>∃s:Sl,x=[s.v]/\n00 5 numC V s row) V' l (rows.take t)/\∀row∈rows.take t,B07 (T01 rows) row=true)
  (λ_ x _=>rows.length-x.t18.toNat) ?_
 rw[hl];refine⟨⟨λc=>bad V ?_,λc=>⟨λc'=>bad V ?_,λc' => ?_⟩⟩,?_⟩
 . unfold y05;have c:=Ak c;have:decide (1<=rows.length)=false:=Ao (by omega);rw[this]; rfl
 . unfold y05;have c':=Ak c';have:decide (rows.length<=64)=false:=Ao (by omega);rw[this,Do9,Bs]
 . have c:=Al c;have c':=Al c';omega
 rintro⟨o2⟩ V1 l1 ⟨n1,n2⟩;refine⟨⟨0,[],rfl,by omega,Hg,rfl,rfl,by simp⟩,?_⟩;rintro⟨t18,o2',k,c,o⟩ V2 l2 ⟨t,l,et,ht,hL,ek,hC,hall⟩;dsimp only at et hL ek hC ⊢;subst et; subst ek;have L2:=Gx l1 l2;refine⟨λhlt => ?_,λhge => ?_⟩
 . have hk:k<rows.length:=by simp at hlt; omega
   have ek:rows[k]?=some rows[k]:=Ae hk;have hmem:=Ax hk;obtain⟨g,s,h1,h2⟩:=(Hi Hh L2 h).row (t:=(k:Int)) (by omega) (row:=rows[k]) (by rw[Aa]; exact ek);have hs:s.len=rows[k].length:=h2.len;rw[hl]at g;have tk:rows.take (k+1)=rows.take k++[rows[k]]:=by rw[Ce,ek]; rfl
   generalize rows[k]=row at *;have no:B07 (T01 rows) row=false->y05 rows=false:=λe=>by
    unfold y05;rw[Fr9.2 ⟨row,hmem,by rw[e]; simp⟩,Bs,Bs]
   refine⟨g,s,h1,λc1=>bad V2 (no ?_),λc1=>⟨λc2=>bad V2 (no ?_),λc2 => ?_⟩⟩
   . unfold B07;have c1:=Ak c1;have:decide (1<=row.length)=false:=Ao (by omega);rw[this]; rfl
   . unfold B07;have c2:=Ak c2;have:decide (row.length<=64)=false:=Ao (by omega);rw[this,Do9,Bs]
   obtain⟨row0,e0,e1⟩:=I0a (rows:=rows) (by omega);obtain⟨g0,s0,h3,h4⟩:=(Hi Hh L2 h).row (t:=(0:Int)) (by omega) (row:=row0) e0;have hs0:s0.len=T01 rows:=by rw[<-e1]; exact h4.len
   rw[hl]at g0;refine⟨g0,s0,h3,λc3=>bad V2 (no ?_),λc3 => ?_⟩
   . unfold B07;have:decide (row.length=T01 rows)=false:=Ao (λe=>by rw[hs,hs0,e]at c3; simp at c3);rw[this,Bs,Bs]
   have ok:B07 (T01 rows) row=true:=by
    have c1:=Al c1;have c2:=Al c2;have c3:row.length=T01 rows:=by rw[hs,hs0]at c3; simp at c3; omega
    unfold B07;rw[Aq (show 1<=row.length by omega),Aq (show row.length<=64 by omega),Aq c3]; rfl
   refine(G0l h2 (by have:=Al c2; omega)).mono λv V3 l3 ⟨r1,hv,hr⟩=>⟨r1,hv,λb1 V4 l4 _ hb1 => ?_⟩;have hnew:V4.has (some (Addr.mk b1 0 none)) [r1.v]:=e05 (cs:=[r1.v]) (j:=0) hb1 (λi v hv=>by rw[Am]; exact hv) rfl;refine⟨l,_,hL,hnew,rfl,by intro v hv; simp at hv; subst hv; rfl,by unfold maxLen; omega,by omega,λc1 l3' hl3 => ?_⟩;rw[i64w (by omega) (by omega)];have L24:=Gx l3 l4;refine⟨⟨k+1,_,by omega,by omega,hl3,rfl,?_,λrow' hr' => ?_⟩,by omega⟩
   . rw[tk];exact(hC.imp λ_ _ ⟨s,e,hs⟩=>⟨s,e,He (Hh L24) L24 hs⟩).append (Hd rfl ⟨_,rfl,He (Hh l4) l4 hr⟩)
   rw[tk]at hr';rcases Cb.1 hr' with hr'|hr'
   . exact hall row' hr'
   rw[show row'=row by simpa using hr']; exact ok
 have e:k=rows.length:=by simp at hge; omega
 subst e;rw[Cu]at hC hall;intro b2 V5 l5 hb2;have ok:y05 rows=true:=by
  unfold y05;simp only[By,Af,Bk9];exact⟨n1,n2,hall⟩
 refine⟨⟨⟨lstA b2 c,rows.length,c⟩⟩,by unfold u0f; rw[ok]; rfl,?_⟩;unfold o0e; rw[if_pos ok];exact k04 hL hb2 (hC.imp λ_ _ ⟨s,e,hs⟩=>⟨s,e,He (Hh l5) l5 hs⟩) rfl
theorem K03{V:View}{g:x00}{rows:List (List Cq)}(h:c01 5 numC V g.rows rows) :
 a00 prog W08 #[g.val] V λv _=>v = .tuple #[.int .i64 (rows.length:Int),.int .i64 (T01 rows:Int)]:=by
 have hl:g.rows.len=rows.length:=h.len;refine s08 g V _ ⟨λc => ?_,λc => ?_⟩
 . have e:rows=[]:=Dc.1 (by simp at c; omega);subst e; rfl
 obtain⟨row0,e0,e1⟩:=I0a (rows:=rows) (by simp at c; omega);obtain⟨g0,s0,h3,h4⟩:=h.row (t:=(0:Int)) (by omega) (row:=row0) e0;refine⟨g0,s0,h3,?_⟩;rw[h4.len,e1,hl]
theorem Y0i{m V:View}{g:x00}{rows:List (List Cq)}{i:Int}(h:c01 5 numC V g.rows rows)(hb:∀row,row∈rows->row.length<=2^30) :
 f03 prog D06 #[g.val,.int .i64 i] m V λv m' V'=>∃(r:Sl) (e:Int),v = .tuple #[r.v,.int .i64 e] /\
  (0<=i/\i<rows.length->e=0/\∃b:Nat,RowR 5 numC m' V' r b (rows.getD i.toNat [])/\(rows.getD i.toNat []≠[]->m b=none)/\(∀k,k≠b\/rows.getD i.toNat []=[]->m' k=m k)) /\
  (¬(0<=i/\i<rows.length)->e=1/\r=⟨none,0,0⟩/\m'=m):=by
 have hl:g.rows.len=rows.length:=h.len;refine E08 m g i V _ ⟨λc => ?_,λc=>⟨λc' => ?_,λc' => ?_⟩⟩
 . have c:=Ak c;exact⟨_,_,rfl,λk=>absurd k.1 (by omega),λ_=>⟨rfl,rfl,rfl⟩⟩
 . have c':=Ak c';exact⟨_,_,rfl,λk=>absurd k.2 (by omega),λ_=>⟨rfl,rfl,rfl⟩⟩
 have c:=Al c;have c':=Al c';have hi:i.toNat<rows.length:=by omega
 have ek:rows[i.toNat]?=some (rows.getD i.toNat []):=by simp[List.getD,hi]
 obtain⟨g1,s,h1,h2⟩:=h.row (t:=i) (by omega) ek;obtain⟨sl,_,hn,o,ho,hC⟩:=h2;refine⟨g1,s,.inr h1,(O08 hC (.inr ho) sl (λe => ?_) (hb _ (Bn ek))).mono λv m1 V1 l1 _ ⟨r,b,hv,hr,k1,k2⟩=>⟨r,hv,r,0,rfl,λ_=>⟨rfl,b,hr,k1,k2⟩,λk=>absurd ⟨by omega,by omega⟩ k⟩⟩;rcases Gu (rows.getD i.toNat []=[])with g|g
 . exact g
 have:=hn g; rw[e]at this; simp at this
theorem N0q{V:View}{g:x00}{rows:List (List Cq)}{i:Int}(h:c01 5 numC V g.rows rows)(hb:∀row,row∈rows->row.length<=2^30) :
 a00 prog D06 #[g.val,.int .i64 i] V λv V'=>∃(r:Sl) (e:Int),v = .tuple #[r.v,.int .i64 e] /\
  (0<=i/\i<rows.length->e=0/\n00 5 numC V' r (rows.getD i.toNat []))/\(¬(0<=i/\i<rows.length)->e=1/\r=⟨none,0,0⟩):=by
 refine f03.known (Y0i h hb) λv m V' V2 l e ap ⟨r,e',hv,h1,h2⟩=>⟨r,e',hv,λk => ?_,λk=>⟨(h2 k).1,(h2 k).2.1⟩⟩;obtain⟨e0,b,hr,_⟩:=h1 k;subst e;exact⟨e0,hr.known (Hh (W0a ap)) (λb cs g=>I07 g)⟩
theorem H0k{V:View}{g:x00}{rows:List (List Cq)}{i j:Int}(h:c01 5 numC V g.rows rows)(hr:Rect rows)(d:Cq) :
 a00 prog u09 #[g.val,.int .i64 i,.int .i64 j] V λv V'=>∃(r:NumV) (e:Int),v = .tuple #[r.val,.int .i64 e] /\
  ((0<=i/\i<rows.length)/\(0<=j/\j<T01 rows)->e=0/\numC V' r.val.cells.toList ((rows.getD i.toNat []).getD j.toNat d)) /\
  (¬((0<=i/\i<rows.length)/\(0<=j/\j<T01 rows))->e=1):=by
 refine Y08 g i j V _ ((K03 h).mono λv V1 l1 hv=>⟨_,_,hv,λc => ?_,λc=>⟨λc2 => ?_,λc2=>⟨λc3 => ?_,λc3=>⟨λc4 => ?_,λc4 => ?_⟩⟩⟩⟩)
 . have c:=Ak c;exact⟨_,_,rfl,λk=>absurd k.1.1 (by omega),λ_=>rfl⟩
 . have c2:=Ak c2;exact⟨_,_,rfl,λk=>absurd k.1.2 (by omega),λ_=>rfl⟩
 . have c3:=Ak c3;exact⟨_,_,rfl,λk=>absurd k.2.1 (by omega),λ_=>rfl⟩
 . have c4:=Ak c4;exact⟨_,_,rfl,λk=>absurd k.2.2 (by omega),λ_=>rfl⟩
 have c:=Al c;have c2:=Al c2;have c3:=Al c3;have c4:=Al c4;have hi:i.toNat<rows.length:=by omega
 have ek:rows[i.toNat]?=some (rows.getD i.toNat []):=by simp[List.getD,hi]
 obtain⟨g1,s,h1,h2⟩:=(Hi Hh l1 h).row (t:=i) (by omega) ek;have hrl:=p0e hr ek;have hj:j.toNat<(rows.getD i.toNat []).length:=by omega
 obtain⟨g2,x,hx,_,hh,hs⟩:=Hf h2 (t:=j) (by omega) (z:=(rows.getD i.toNat []).getD j.toNat d) (M08 hj d);obtain⟨y,ey⟩:∃y:NumV,x=y.val.cells.toList:=by obtain⟨y,e,_⟩:=hx; exact⟨_,e⟩
 subst ey;exact⟨g1,s,h1,g2,y,hh,hs,_,_,rfl,λ_=>⟨rfl,hx⟩,λk=>absurd ⟨⟨by omega,by omega⟩,by omega,by omega⟩ k⟩
theorem y0b{V:View}{g:x00}{rows:List (List Cq)}(h:c01 5 numC V g.rows rows)(hr:Rect rows)(hn:rows.length<=2^20)(hw:T01 rows<=2^20)(d:Cq) :
 a00 prog N03 #[g.val] V λv V'=>∃r:x00,v=r.val/\c01 5 numC V' r.rows (c0g d rows):=by
 have hl:g.rows.len=rows.length:=h.len;let n:=rows.length;let w:=T01 rows;let A:Nat->Nat->Cq:=λj i=>atG d rows i j
 refine e08 g V _
  (λ_ x V'=>∃k:Nat,x.t18=k/\k<=T01 rows/\x.o15.length=T01 rows/\x04 5 numC x.o0 V' x.o15 (T01 rows) (λi=>if i<k then rowL rows.length (A i)else [])) (λ_ x _=>T01 rows-x.t18.toNat)
  (λc x V'=>∃k j:Nat,c.t18=k/\k<T01 rows/\x.t24=j/\j<=rows.length/\x.o15.length=T01 rows/\x04 5 numC x.o0 V' x.o15 (T01 rows) (λi=>if i<k then rowL rows.length (A i)else if i=k then rowL j (A k)else [])) (λ_ x _=>rows.length-x.t24.toNat) ?_
 refine(K03 h).mono λv V1 l1 hv=>⟨_,_,hv,?_⟩;rw[Aa,hl];refine⟨⟨by omega,by omega,by omega,by omega⟩,⟨0,rfl,by omega,by simp,?_⟩,?_⟩
 . rw[f10]; exact(e0i V1 (T01 rows)).congr λi _=>by rw[if_neg (by omega)]
 rintro⟨t18,o0,o2,o15⟩ V3 l3 ⟨k,ek,hk,hol,hR⟩;dsimp only at ek hol hR ⊢;subst ek;refine⟨λhlt=>⟨⟨k,0,rfl,by simp at hlt; omega,rfl,by omega,hol,hR.congr λi hi => ?_⟩,?_⟩,λhge => ?_⟩
 . by_cases e:i<k
   . rw[if_pos e,if_pos e]
   rw[if_neg e,if_neg e];split<;>rfl
 . rintro⟨t24,o0',o15'⟩ V4 l4 ⟨k',j,ek,hkw,ej,hj,hol',hR'⟩;dsimp only at ek ej hol' hR' ⊢;obtain rfl:k=k':=by omega
   subst ej;refine⟨λhlt2 => ?_,λhge2 => ?_⟩
   . have hjn:j<rows.length:=by simp at hlt2; omega
     obtain⟨s3,e3,r1,r2,r3,⟨o3,r4,r5,r6⟩,r7⟩:=hR'.row (i:=k) hkw;rw[if_neg (by omega),if_pos rfl]at r1 r6;rw[B00]at r1;have ejr:=M08 hjn [];obtain⟨g1,s,g2,g3⟩:=(Hi Hh (Gx l1 (Gx l3 l4)) h).row (t:=(j:Int)) (by omega) (row:=rows.getD j []) (by rw[Aa]; exact ejr);rw[hl]at g1;have hkr:k<(rows.getD j []).length:=by rw[p0e hr ejr]; exact hkw
     obtain⟨d1,x,hx,hxl,hh,hs⟩:=Hf g3 (t:=(k:Int)) (by omega) (z:=A k j) (by rw[Aa]; exact M08 hkr d);obtain⟨y,ey⟩:∃y:NumV,x=y.val.cells.toList:=by obtain⟨y,e,_⟩:=hx; exact⟨_,e⟩
     subst ey;refine⟨g1,s,.inr g2,⟨by omega,by omega⟩,s3,by rw[Aa,Ct,Am]; exact e3,d1,y,.inr hh,hs,λb2 V6 l6 _ hb2 => ?_⟩;have hnew:V6.has (some (Addr.mk b2 0 none)) y.val.cells.toList:=e05 (cs:=y.val.cells.toList) (j:=0) hb2 (λi v hv=>by rw[Am]; exact hv) rfl;have hrc:numC V6 y.val.cells.toList (A k j):=Hh l6 _ _ hx;refine⟨o3,_,⟨r2,r3⟩,P0d l6 r4,r5,.inr hnew,rfl,oneN hrc,by unfold maxLen; omega,by omega,λ_ h2=>r7 1 (by omega) h2,λa1 c1 m1 ha=>⟨⟨by omega,by omega⟩,by rw[hol',Aa]; omega,?_⟩⟩;have:=(hR'.le Hh l6).app (i:=k) hkw e3 (z:=A k j) rfl hrc (o':=o3) (by rw[if_neg (by omega),if_pos rfl]; exact r6.imp (Hh l6)) ha;rw[i64w (by omega) (by omega)];refine⟨⟨k,j+1,rfl,hkw,by omega,by omega,by simp[hol'],?_⟩,by omega⟩;have e1:(0+Int.toNat (k:Int)*1)=k:=by omega
     rw[e1];refine this.congr λi hi => ?_;by_cases e:i=k
     . subst e;simp only[Az,Fs9,At9];exact K0c _ _
     simp only[if_neg e]
   have e:j=rows.length:=by simp at hge2; omega
   subst e;rw[i64w (by omega) (by omega)];refine⟨⟨k+1,by omega,by omega,hol',hR'.congr λi hi => ?_⟩,by omega⟩;by_cases e:i<k
   . rw[if_pos e,if_pos (by omega)]
   rw[if_neg e];by_cases e2:i=k
   . subst e2; rw[if_pos rfl,if_pos (by omega)]
   rw[if_neg e2,if_neg (by omega)]
 have e:k=T01 rows:=by simp at hge; omega
 subst e;refine λb3 hb3 _=>⟨by decide,λV5 l5 hm5=>⟨_,rfl,?_⟩⟩;have hR2:x04 5 numC o0 V3 o15 (T01 rows) (λi=>rowL rows.length (A i)):=hR.congr λi hi=>by rw[if_pos hi]
 exact(hR2.mat hol hb3).known (Hh l5) hm5
def all4:List Cq:=[⟨1,0⟩,⟨0,-1⟩,⟨-1,0⟩,⟨0,1⟩]
def S0m(n:Nat):List Cq:=(List.range n).map λj=>nth all4 (4 / n*j)
theorem W14:(⟨((1:Int):Rat),0⟩:Cq)=⟨1,0⟩:=Hb (by simp) rfl
theorem X14:(⟨((0:Int):Rat) / ((1:Int):Rat),((-1:Int):Rat) / ((1:Int):Rat)⟩:Cq)=⟨0,-1⟩:=Hb (by simp only[]; grind) (by simp only[]; grind)
theorem Y14:(⟨((-1:Int):Rat),0⟩:Cq)=⟨-1,0⟩:=Hb (by simp only[]; grind) rfl
theorem Z14 : -(⟨0,-1⟩:Cq)=⟨0,1⟩:=Hb (by rw[G07]; grind) (by rw[H07]; grind)
theorem t0a{V:View}{n:Nat}(hn:n=1\/n=2\/n=4) :
 a00 prog B0h #[.int .i64 (n:Int)] V λv V'=>∃r:Sl,v = .tuple #[r.v,.int .i64 0]/\H01 V' r (S0m n):=by
 have hd:(4 / n)*n=4:=by rcases hn with rfl|rfl|rfl<;>rfl
 have hpos:1<=4 / n:=by rcases hn with rfl|rfl|rfl<;>decide
 have hn4:n<=4:=by omega
 have hn0:n≠0:=by omega
 have hdi:Int.tdiv 4 (n:Int)=((4 / n:Nat):Int):=by rcases hn with rfl|rfl|rfl<;>rfl
 have hw:i64.wrap (Int.tdiv 4 (n:Int))=((4 / n:Nat):Int):=by
  rw[hdi];refine i64w (by omega) ?_;have:4 / n<=4:=Eh _ _;omega
 have hq:4 / n<=4:=Eh _ _;refine E0g (n:Int) V _ (λc x V'=>∃l,H01 V' c.t6 all4/\x.t8=(4 / n*x.t7l:Nat)/\x.t7l<=n/\G02 5 x.t7l x.t7c x.o7 l/\u05 V' l ((List.range x.t7l).map λj=>nth all4 (4 / n*j)))
  (λ_ x _=>n-x.t7l) ((E07 (Cg _)).mono λv V1 l1 hv=>⟨_,hv,λh => ?_,λh=>⟨λh => ?_,λ_ => ?_⟩⟩)
 . exfalso;rw[Aa]at h;rcases hn with rfl|rfl|rfl<;>exact absurd h (by decide)
 . exfalso; simp at h; omega
 refine(a0c (by omega) (by omega) (by omega) (by omega) (by omega) (by omega) (by omega)).mono λv V2 l2 ⟨r2,hv,h2⟩=>⟨r2,0,hv,?_⟩;refine(a02 (by omega) (by omega)).mono λv V3 l3 ⟨r4,hv,h4⟩=>⟨r4,hv,?_⟩;refine(a02 (by omega) (by omega)).mono λv V4 l4 ⟨r5,hv,h5⟩=>⟨r5,hv,?_⟩;rw[X14]at h2;rw[W14]at h4;rw[Y14]at h5;refine(E0e (h2.le (Gx l3 l4))).mono λv V5 l5 ⟨r6,hv,h6⟩=>⟨r6,hv,?_⟩;rw[Z14]at h6;intro b V6 l6 hf hb;have hall:H01 V6 (Sl.mk (some (Addr.mk b 0 none)) 4 4) all4 :=
  W01 (o:=[.bool r4.re.neg,r4.re.mag.v,.bool r4.im.neg,r4.im.mag.v,r4.under.v]++([.bool r2.re.neg,r2.re.mag.v,.bool r2.im.neg,r2.im.mag.v,r2.under.v]++([.bool r5.re.neg,r5.re.mag.v,.bool r5.im.neg,r5.im.mag.v,r5.under.v]++([.bool r6.re.neg,r6.re.mag.v,.bool r6.im.neg,r6.im.mag.v,r6.under.v]++[]))))
   (by simpa using hb)
   ⟨_,_,rfl,rfl,⟨r4,rfl,h4.le (Gx l4 (Gx l5 l6))⟩,_,_,rfl,rfl,⟨r2,rfl,h2.le (Gx l3 (Gx l4 (Gx l5 l6)))⟩,_,_,rfl,rfl,⟨r5,rfl,h5.le (Gx l5 l6)⟩,_,_,rfl,rfl,⟨r6,rfl,h6.le l6⟩,rfl⟩ rfl
 refine⟨⟨[],hall,by simp,by simp,Hg,rfl⟩,?_⟩;rintro⟨k,c,t,o⟩ V7 l7 ⟨l,hA,ht,hk,hlo,hin⟩;simp only at hA ht hk hlo hin ⊢;refine⟨λhlt => ?_,λhge => ?_⟩
 . simp only[Af]at hlt;have hkn:k<n:=by
    rcases Ad k n with h|h
    . exact h
    have:=Cv (4 / n) h;omega
   obtain⟨hb',x,hx,hs,hnx⟩:=hA.get (t:=t) (by omega) (by simp[all4]; omega);refine⟨hb',x,hx,hs,λb2 V8 l8 hf8 hb8 => ?_⟩;refine⟨l,_,hlo,T09 (l:=[.bool x.re.neg,x.re.mag.v,.bool x.im.neg,x.im.mag.v,x.under.v]) hb8,rfl,x0b x,Ah (show k+1<=5 by omega) (show 5<=maxLen by decide),by omega,λc1 l3' hl3=>⟨by omega,⟨_,hA.le l8,?_,by omega,hl3,?_⟩,by omega⟩⟩
   . rw[hw,i64w (by omega) (by omega),ht,Eu]; omega
   rw[<-A0m];have e3:4 / n*k=t.toNat:=by omega
   rw[e3];exact(hin.le l8).push (hnx.le l8)
 simp only[Ac]at hge;intro b3 V9 l9 hb9;refine⟨_,rfl,?_⟩;have hkn:k=n:=by
  rcases Ad k n with h|h
  . have:=Cv (4 / n) (show k+1<=n from h);rw[Eu]at this;omega
  omega
 subst hkn;refine k04 hlo hb9 (hin.le l9) ?_;simp[S0m]
theorem g0g{V:View}{p w:Sl}{m:Nat}{zs ws:List Cq}(S T:Nat)(hm:m<=6)(hz:zs.length=2^m)(hw:ws.length=2^m)(hp:H01 V p zs)(hq:H01 V w ws)
 (hS:∀i,i<2^m->(nth zs i).sz<=S) (hT:∀i,i<2^m->(nth ws i).sz<=T) (hsz:2^m*(S+T+2)<=2^39) :
 a00 prog t06 #[p.v,w.v] V λv V'=>∃r:Sl,v = .tuple #[r.v,.int .i64 0]/\H01 V' r (q02 m zs ws):=by
 have hpl:=hp.len;have hwl:=hq.len;have hl:lenB w.len=true:=by
  rw[hwl,hw];have key:∀m∈List.range 7,lenB (2^m)=true:=by decide
  exact key m (by simp; omega)
 refine G0b p w V _ ((w0b p w).mono λv V1 l1 hv=>⟨_,hv,λh => ?_,λh => ?_⟩)
 . rw[hl]at h; simp at h; omega
 have ne:q02 m zs ws≠[]:=by
   intro e;have:=Y02 m zs ws;rw[e]at this; simp at this;have:0<2^m:=Bi (by omega);omega
 exact(b0i ne (o06 m S T hm hz hw (hp.le l1) (hq.le l1) hS hT hsz)).mono λv V2 l2 ⟨r,hv,hr⟩=>⟨r,hv,r,rfl,hr⟩
def rnth(rs:List RatV)(i:Nat):RatV:=rs.getD i ⟨0,0,0⟩
theorem I0k{V:View}{s:Sl}{zs:List Cq}(h:H01 V s zs)(hn:zs.length<=2^32) :
 a00 prog e09 #[s.v] V λv V'=>∃r:Sl,v=r.v/\H01 V' r (M07 zs):=by
 have hl:=h.len;refine Z08 s V _ (λ_ x V'=>0<=x.t10/\x.t10<=s.len/\u05 V' x.o7 (p0a s.len x.t10.toNat λi=>(nth zs i).conj)) (λ_ x _=>s.len-x.t10.toNat)
  ⟨⟨by omega,by omega,by omega,by omega⟩,⟨Ew 0,Cg _,?_⟩,?_⟩
 . rw[Aa];show u05 V _ (p0a s.len 0 _);rw[b0g]; exact u05.zeros _ _
 rintro⟨t,o⟩ V1 l1 ⟨h0,h1,ho⟩;dsimp only at h0 h1 ho ⊢;rw[Aa];refine⟨λhlt => ?_,λhge => ?_⟩
 . simp only[Af]at hlt;obtain⟨hb,x,hx,hs,hnx⟩:=(h.le l1).get h0 (by omega);refine⟨hb,x,hx,hs,(Y0g hnx).mono λv V2 l2 ⟨r,hv,hr⟩=>⟨r,hv,⟨h0,hlt⟩,f01.room ho (by rw[L07 (by omega)]; omega),?_⟩⟩;have e:i64.wrap (t+1)=t+1:=i64w (by omega) (by omega);have e2:(t+1).toNat=t.toNat+1:=by omega
   rw[e];refine⟨⟨by omega,by omega,?_⟩,by omega⟩;rw[e2,<-H0h (by omega)];exact(ho.le l2).set (by rw[L07 (by omega)]; omega) hr
 simp only[Ac]at hge;intro b V3 l3 hb;have e:t.toNat=s.len:=by omega
 rw[e,z0m]at ho;refine⟨_,rfl,W01 (zs:=M07 zs) hb ?_ (by simp[M07,hl])⟩;unfold M07;rw[<-hl]; exact ho.le l3
theorem j13{V:View}{p q:Int}(p0 : -9223372036854775808<=p)(p1:p<=9223372036854775807)(q0 : -9223372036854775808<=q)(q1:q<=9223372036854775807)(hq:q≠0) :
 a00 prog b0d #[.int .i64 p,.int .i64 q] V λv V'=>∃r:NumV,v=r.val/\Q00 V' r ⟨(p:Rat) / (q:Rat),((0:Int):Rat) / (q:Rat)⟩:=by
 refine H0c p q V _ ((a0c p0 p1 (by omega) (by omega) q0 q1 hq).mono λv V1 l1 ⟨r,hv,hr⟩=>⟨r,0,hv,?_⟩);exact(u0b hr).mono λv V2 l2 ⟨r3,hv,h3⟩=>⟨r3,hv,r3,rfl,h3⟩
theorem J0s{V:View}{l:List Value}{zs:List Cq}{c:Nat}(h:u05 V l zs)(h1:1<=zs.length)(hn:zs.length<=64)(hS:∀i,i<zs.length->(nth zs i).sz<=2^39) :
 g0i prog d0b (λb=>(Value.slice (some ⟨b,0,none⟩) zs.length c::[]:List Value)) j0m l V λl' V'=>u05 V' l' (U06 zs):=by
 refine B0a 0 zs.length c l V _ (λ_ x V'=>0<=x.t10/\x.t10<=zs.length/\u05 V' x.o0 (I0h zs.length x.t10.toNat (λi=>nth zs i*K0b zs.length) (nth zs))) (λ_ x _=>zs.length-x.t10.toNat) ?_;refine(j13 (p:=1) (q:=(zs.length:Int)) (by omega) (by omega) (by omega) (by omega) (by omega)).mono λv V1 l1 ⟨r1,hv,hr1⟩=>⟨r1,hv,⟨Ew 0,Cg _,?_⟩,?_⟩
 . show u05 V1 l (I0h zs.length 0 _ _);rw[E0v]; exact h.le l1
 rintro⟨t,o⟩ V2 l2 ⟨h0,ht,ho⟩;dsimp only at h0 ht ho ⊢;refine⟨λhlt => ?_,λhge => ?_⟩
 . simp only[Af]at hlt;have hk:t.toNat<zs.length:=by omega
   obtain⟨x,hx,hnx⟩:=ho.cut (i:=t.toNat) (by rw[m0e]; exact hk);rw[z0x hk (An9 _)]at hnx;have hs:=x0t h1 hn;refine⟨⟨h0,hlt⟩,x,hx,(m03 hnx (hr1.le l2) (by have:=hS _ hk; omega) (by show(K0b zs.length).sz<=_; omega)).mono λv V3 l3 ⟨r2,hv,hr2⟩=>⟨r2,hv,⟨h0,hlt⟩,f01.room ho (by rw[m0e]; exact hk),?_⟩⟩;have e:i64.wrap (t+1)=t+1:=i64w (by omega) (by omega);have e2:(t+1).toNat=t.toNat+1:=by omega
   rw[e];refine⟨⟨by omega,by omega,?_⟩,by omega⟩;rw[e2,<-y0x hk];exact(ho.le l3).set (by rw[m0e]; exact hk) hr2
 simp only[Ac]at hge;have e:t.toNat=zs.length:=by omega
 rw[e,x0x]at ho;exact⟨⟨rfl,rfl,rfl⟩,ho⟩
theorem w0o:∀m∈List.range 7,lenB (2^m)=true:=by decide
theorem x0o{V:View}{p w:Sl}{m:Nat}{zs ws:List Cq}(S T:Nat)(hm:m<=6)(hz:zs.length=2^m)(hw:ws.length=2^m)(hp:H01 V p zs)(hq:H01 V w ws)
 (hS:∀i,i<2^m->(nth zs i).sz<=S) (hT:∀i,i<2^m->(nth ws i).sz<=T) (hsz:64*(S+T+2)<=2^39) :
 a00 prog g05 #[p.v,w.v] V λv V'=>∃r:Sl,v = .tuple #[r.v,.int .i64 0]/\H01 V' r (U06 (q02 m zs (M07 ws))):=by
 have hl:lenB (2^m)=true:=w0o m (by simp; omega);have hb:=G0s hl;have hpl:=hp.len;have hwl:=hq.len;refine z09 p w V _ ((w0b p w).mono λv V1 l1 hv=>⟨_,hv,λh => ?_,λ_ => ?_⟩)
 . exfalso;rw[hwl,hw,hl,hpl,hz]at h; simp at h
 refine(I0k (hq.le l1) (by omega)).mono λv V2 l2 ⟨r2,hv,h2⟩=>⟨r2,hv,?_⟩;have hcl:(M07 ws).length=2^m:=by rw[n0e,hw]
 have hT2:=d0o ws T (by rw[hw]; exact hT);rw[hw]at hT2;have hfs:=M09 m zs (M07 ws) S T hz hcl hS hT2;have hmul:2^m*(S+T+2)<=64*(S+T+2):=Ag _ hb.2;refine(o06 m S T hm hz hcl (hp.le (Gx l1 l2)) h2 hS hT2 (by omega)).mono λn c l rest V3 l3 ⟨hn,hc,hr,hin⟩=>⟨hr,?_⟩;have hfl:=Y02 m zs (M07 ws);have hlne:l≠[]:=by
  intro e; subst e;have:=f01.length hin;rw[hfl]at this;simp at this; omega
 refine⟨⟨by omega,hlne⟩,?_⟩;subst hn;refine(J0s (c:=c) hin (by omega) (by omega) (by rw[hfl]; intro i hi; have:=hfs i hi; omega)).mono λl2' V4 l4 h4 => ?_;intro b V5 l5 hb5;refine⟨_,rfl,?_⟩;rw[hc];exact W01 hb5 (h4.le l5) (by rw[B0f])
theorem J0k{m:Nat}(hm:m<=2):S0m (2^m)=k03 m:=by
 have:m=0\/m=1\/m=2:=by omega
 rcases this with rfl|rfl|rfl<;>simp[S0m,k03,all4,nth,Cz,one1,one2,one4]
theorem O0t{m:Nat}(hm:m<=2):∀i,i<2^m->(nth (k03 m) i).sz<=4:=by
 have:m=0\/m=1\/m=2:=by omega
 rcases this with rfl|rfl|rfl<;>decide +kernel
def Z0i(zs ws:List Cq):List Cq:=q02 (Nat.log2 ws.length) zs ws
def a0j(zs ws:List Cq):List Cq:=U06 (q02 (Nat.log2 ws.length) zs (M07 ws))
theorem P08(m:Nat):Nat.log2 (2^m)=m:=by simp
def okSz(S:Nat)(zs:List Cq):Prop:=∀z∈zs,z.sz<=S
theorem okSz.at{S:Nat}{zs:List Cq}(h:okSz S zs)(h1:1<=S)(i:Nat):(nth zs i).sz<=S:=by
 rcases Ad i zs.length with g|g
 . exact h _ (Bn (l0k g))
 have:nth zs i=Cq.zero:=by unfold nth; simp[List.getD,Ab g]
 rw[this];exact Ah K06 h1
theorem okSz.of{S:Nat}{zs:List Cq}(h:∀i,i<zs.length->(nth zs i).sz<=S):okSz S zs:=λz hz=>by
 obtain⟨i,hi,e⟩:=Gn hz;have:=h i hi;have e2:nth zs i=z:=by unfold nth; simp[List.getD,hi,e]
 rw[e2]at this; exact this
theorem G0i{zs ws:List Cq}{m:Nat}(hw:ws.length=2^m):(Z0i zs ws).length=2^m:=by unfold Z0i; rw[hw,P08,Y02]
theorem H0i{zs ws:List Cq}{m:Nat}(hw:ws.length=2^m):(a0j zs ws).length=2^m:=by unfold a0j; rw[hw,P08,B0f,Y02]
theorem T10{zs ws:List Cq}{m S T:Nat}(hm:m<=6)(hz:zs.length=2^m)(hw:ws.length=2^m)(hS:okSz S zs)(hT:okSz T ws)(s1:1<=S)(t1:1<=T):okSz (64*(S+T+2)) (Z0i zs ws):=by
 refine okSz.of λi hi => ?_;rw[G0i hw]at hi;unfold Z0i; rw[hw,P08];have:=M09 m zs ws S T hz hw (λi _=>hS.at s1 i) (λi _=>hT.at t1 i) i hi;have h2:2^m<=2^6:=Ar (by omega) hm;have:=Ag (S+T+2) h2;omega
theorem U10{zs ws:List Cq}{m S T:Nat}(hm:m<=6)(hz:zs.length=2^m)(hw:ws.length=2^m)(hS:okSz S zs)(hT:okSz T ws)(s1:1<=S)(t1:1<=T):okSz (64*(S+T+2)+9) (a0j zs ws):=by
 refine okSz.of λi hi => ?_;rw[H0i hw]at hi;unfold a0j; rw[hw,P08];have hl:=Y02 m zs (M07 ws);have h2:2^m<=2^6:=Ar (by omega) hm;refine B0m _ _ (by rw[hl]; omega) (λi hi => ?_) i (by rw[hl]; exact hi);rw[hl]at hi;have hc:=d0o ws T (λi _=>hT.at t1 i);rw[hw]at hc;have:=M09 m zs (M07 ws) S T hz (by rw[n0e,hw]) (λi _=>hS.at s1 i) hc i hi;have:=Ag (S+T+2) h2;omega
def W09(back:Bool)(zs ws:List Cq):List Cq:=if back=true then a0j zs ws else Z0i zs ws
theorem X09{back:Bool}{zs ws:List Cq}{m:Nat}(hw:ws.length=2^m):(W09 back zs ws).length=2^m:=by
 unfold W09; split
 . exact H0i hw
 exact G0i hw
theorem W10{back:Bool}{zs ws:List Cq}{m S T:Nat}(hm:m<=6)(hz:zs.length=2^m)(hw:ws.length=2^m)(hS:okSz S zs)(hT:okSz T ws)(s1:1<=S)(t1:1<=T):okSz (64*(S+T+2)+9) (W09 back zs ws):=by
 unfold W09; split
 . exact U10 hm hz hw hS hT s1 t1
 exact λz hz'=>Ah (T10 hm hz hw hS hT s1 t1 z hz') (by omega)
theorem O0q{n:Nat}(h:lenB n=true):∃m,m<=6/\n=2^m:=by
 have hmem:n∈[1,2,4,8,16,32,64]:=by unfold lenB at h; exact List.contains_iff_mem.1 h
 simp only[Bq,Cp,Eq9]at hmem;rcases hmem with h|h|h|h|h|h|h
 . exact⟨0,by omega,h⟩
 . exact⟨1,by omega,h⟩
 . exact⟨2,by omega,h⟩
 . exact⟨3,by omega,h⟩
 . exact⟨4,by omega,h⟩
 . exact⟨5,by omega,h⟩
 exact⟨6,by omega,h⟩
def y06(rows:List (List Cq))(ws vs:List Cq):Bool:=lenB ws.length&&(lenB vs.length&&(decide (T01 rows=ws.length)&&decide (rows.length=vs.length)))
def b0j(rows:List (List Cq))(ws vs:List Cq):Int:=if y06 rows ws vs=true then 0 else 4
def d0h(back:Bool)(rows:List (List Cq))(ws vs:List Cq):List (List Cq) :=
 c0g Cq.zero ((c0g Cq.zero (rows.map λrow=>W09 back row ws)).map λrow=>W09 back row vs)
def y0o(back:Bool)(rows:List (List Cq))(ws vs:List Cq):List (List Cq):=if y06 rows ws vs=true then d0h back rows ws vs else []
def Q08(S:Nat)(rows:List (List Cq)):Prop:=∀row∈rows,okSz S row
theorem z0o{S:Nat}{rows:List (List Cq)}(h:Q08 S rows)(h1:1<=S):Q08 S (c0g Cq.zero rows):=by
 intro row hr z hz;unfold c0g matL at hr;obtain⟨j,_,rfl⟩:=Bc.1 hr;unfold rowL at hz;obtain⟨i,hi,rfl⟩:=Bc.1 hz;have hi:i<rows.length:=by simpa using hi
 exact(h _ (Bn (M08 hi []))).at h1 j
theorem X10{rows:List (List Cq)}{f:List Cq->List Cq}{n:Nat}(h:∀row∈rows,(f row).length=n):Rect (rows.map f)/\(0<rows.length->T01 (rows.map f)=n):=by
 cases rows with
 | nil=>exact⟨λrow hr=>by simp at hr,λh=>by simp at h⟩
 | cons a l =>
   have e:T01 ((a::l).map f)=n:=by simpa [T01]using h a (by simp)
   refine⟨λrow hr => ?_,λ_=>e⟩;rw[e];obtain⟨r,hr2,rfl⟩:=Bc.1 hr;exact h r hr2
structure Mid (rows:List (List Cq)) (n m:Nat):Prop where
 rect:Rect rows
 len:rows.length=2^n
 cols:T01 rows=2^m
theorem Mid.row{rows:List (List Cq)}{n m:Nat}(h:Mid rows n m):∀row∈rows,row.length=2^m:=λrow hr=>by rw[h.rect row hr,h.cols]
theorem Mid.map{rows:List (List Cq)}{n m:Nat}(h:Mid rows n m)(back:Bool){ws:List Cq}(hw:ws.length=2^m):Mid (rows.map λrow=>W09 back row ws) n m:=by
 obtain⟨h1,h2⟩:=X10 (rows:=rows) (f:=λrow=>W09 back row ws) (n:=2^m) λrow _=>X09 hw;exact⟨h1,by rw[Bt,h.len],h2 (by rw[h.len]; exact Bi (by omega))⟩
theorem Mid.turn{rows:List (List Cq)}{n m:Nat}(h:Mid rows n m):Mid (c0g Cq.zero rows) m n :=
 ⟨G0v _ _,by rw[z0i,h.cols],by rw[H0v _ (by rw[h.cols]; exact Bi (by omega)),h.len]⟩
theorem T0m{rows:List (List Cq)}{ws vs:List Cq}(h:y06 rows ws vs=true)(hr:Rect rows):∃n m,n<=6/\m<=6/\ws.length=2^m/\vs.length=2^n/\Mid rows n m:=by
 unfold y06 at h;simp only[By,Af]at h;obtain⟨h1,h2,h3,h4⟩:=h;obtain⟨m,hm,e1⟩:=O0q h1;obtain⟨n,hn,e2⟩:=O0q h2;exact⟨n,m,hn,hm,e1,e2,hr,by rw[h4,e2],by rw[h3,e1]⟩
theorem A0y{rows:List (List Cq)}{n m S T:Nat}(h:Mid rows n m)(hm:m<=6)(back:Bool){ws:List Cq}(hw:ws.length=2^m)(hS:Q08 S rows)(hT:okSz T ws)(s1:1<=S)(t1:1<=T) :
 Q08 (64*(S+T+2)+9) (rows.map λrow=>W09 back row ws):=by
 intro row hr;obtain⟨r,hr2,rfl⟩:=Bc.1 hr;exact W10 hm (h.row r hr2) hw (hS r hr2) hT s1 t1
theorem B0y{rows:List (List Cq)}{n m:Nat}(h:Mid rows n m)(back:Bool){ws vs:List Cq}(hw:ws.length=2^m)(hv:vs.length=2^n):Mid (d0h back rows ws vs) n m:=(((h.map back hw).turn).map back hv).turn
theorem Y10{rows:List (List Cq)}{n m S T:Nat}(h:Mid rows n m)(hn:n<=6)(hm:m<=6)(back:Bool){ws vs:List Cq}(hw:ws.length=2^m)(hv:vs.length=2^n)(hS:Q08 S rows)(hT:okSz T ws)(hT2:okSz T vs)(s1:1<=S)(t1:1<=T) :
 Q08 (64*(64*(S+T+2)+9+T+2)+9) (d0h back rows ws vs):=by
 have a1:=z0o (A0y h hm back hw hS hT s1 t1) (by omega);exact z0o (A0y ((h.map back hw).turn) hn back hv a1 hT2 (by omega) t1) (by omega)
theorem k13{V:View}{p w:Sl}{m:Nat}{zs ws:List Cq}(S T:Nat)(hm:m<=6)(hz:zs.length=2^m)(hw:ws.length=2^m)(hp:H01 V p zs)(hq:H01 V w ws)(hS:okSz S zs)(hT:okSz T ws)(s1:1<=S)(t1:1<=T)
 (hsz:64*(S+T+2)<=2^39):a00 prog t06 #[p.v,w.v] V λv V'=>∃r:Sl,v = .tuple #[r.v,.int .i64 0]/\H01 V' r (W09 false zs ws):=by
 have h2:2^m<=2^6:=Ar (by omega) hm;have h3:=Ag (S+T+2) h2;refine(g0g S T hm hz hw hp hq (λi _=>hS.at s1 i) (λi _=>hT.at t1 i) (by omega)).mono λv V1 _ ⟨r,hv,hr⟩=>⟨r,hv,?_⟩;unfold W09 Z0i; rw[hw,P08]; exact hr
theorem K0s{V:View}{p w:Sl}{m:Nat}{zs ws:List Cq}(S T:Nat)(hm:m<=6)(hz:zs.length=2^m)(hw:ws.length=2^m)(hp:H01 V p zs)(hq:H01 V w ws)(hS:okSz S zs)(hT:okSz T ws)(s1:1<=S)(t1:1<=T)
 (hsz:64*(S+T+2)<=2^39):a00 prog g05 #[p.v,w.v] V λv V'=>∃r:Sl,v = .tuple #[r.v,.int .i64 0]/\H01 V' r (W09 true zs ws):=by
 refine(x0o S T hm hz hw hp hq (λi _=>hS.at s1 i) (λi _=>hT.at t1 i) hsz).mono λv V1 _ ⟨r,hv,hr⟩=>⟨r,hv,?_⟩;unfold W09 a0j; rw[hw,P08]; exact hr
def tfn(back:Bool):FuncId:=if back=true then g05 else t06
theorem T0v{V:View}{s w:Sl}{pf pw:Option Addr}{m:Nat}{zs ws:List Cq}(back:Bool)(S T:Nat)(hf:V.load pf=some (.func (.func (tfn back)) #[] #[]))(hl:V.load pw=some w.v)(hm:m<=6)(hz:zs.length=2^m)(hw:ws.length=2^m)(hp:H01 V s zs)(hq:H01 V w ws)
 (hS:okSz S zs) (hT:okSz T ws) (s1:1<=S) (t1:1<=T) (hsz:64*(S+T+2)<=2^39) :
 a00 prog X01 #[s.v,.pointer pf,.pointer pw] V λv V'=>∃r:Sl,v=r.v/\H01 V' r (W09 back zs ws):=by
 cases back with
 | true=>exact D04 s pf pw V _ ⟨⟨⟩,hf,w,hl,(K0s S T hm hz hw hp hq hS hT s1 t1 hsz).mono λv V1 _ ⟨r,hv,hr⟩=>⟨r,0,hv,r,rfl,hr⟩⟩
 | false=>exact p05 s pf pw V _ ⟨⟨⟩,hf,w,hl,(k13 S T hm hz hw hp hq hS hT s1 t1 hsz).mono λv V1 _ ⟨r,hv,hr⟩=>⟨r,0,hv,r,rfl,hr⟩⟩
theorem e0h{V:View}{g:x00}{f:Fn2}{w:Sl}{m:Nat}{rows:List (List Cq)}{ws:List Cq}(back:Bool)(S T:Nat)(h:c01 5 numC V g.rows rows)(hn:rows.length<=2^20)(hf:V.load f.p0=some (.func (.func (tfn back)) #[] #[]))(hl:V.load f.p1=some w.v)
 (hm:m<=6) (hz:∀row∈rows,row.length=2^m) (hw:ws.length=2^m) (hq:H01 V w ws) (hS:∀row∈rows,okSz S row) (hT:okSz T ws) (s1:1<=S) (t1:1<=T) (hsz:64*(S+T+2)<=2^39) :
 a00 prog T05 #[g.val,f.val X01] V λv V'=>∃r:x00,v=r.val/\c01 5 numC V' r.rows (rows.map λrow=>W09 back row ws):=by
 have hgl:g.rows.len=rows.length:=h.len;refine k0b g f V _
  (λ_ x V'=>∃(t:Nat) (l:List Value),x.t11=t/\t<=rows.length/\G02 1 x.o5_0l x.o5_0c x.o21 l/\x.o5_0l=t/\f01 1 (λV x row=>∃s:Sl,x=[s.v]/\n00 5 numC V s row) V' l ((rows.take t).map λrow=>W09 back row ws))
  (λ_ x _=>rows.length-x.t11.toNat) ⟨⟨0,[],rfl,by omega,Hg,rfl,rfl⟩,?_⟩
 rintro⟨t11,o4,k,c,o⟩ V1 l1 ⟨t,l,et,ht,hL,ek,hC⟩;dsimp only at et hL ek hC ⊢;subst et; subst ek;rw[hgl];refine⟨λhlt => ?_,λhge => ?_⟩
 . have hk:k<rows.length:=by simp at hlt; omega
   have ek:=M08 hk [];have hmem:=Bn ek;obtain⟨g1,s,h1,h2⟩:=(Hi Hh l1 h).row (t:=(k:Int)) (by omega) (row:=rows.getD k []) (by rw[Aa]; exact ek);rw[hgl]at g1;have tk:(rows.take (k+1)).map (λrow=>W09 back row ws)=(rows.take k).map (λrow=>W09 back row ws)++[W09 back (rows.getD k []) ws]:=by rw[Ce,ek]; simp
   generalize rows.getD k []=row at *;refine⟨g1,s,h1,(T0v back S T (H02 l1 hf) (H02 l1 hl) hm (hz _ hmem) hw h2 (hq.le l1) (hS _ hmem) hT s1 t1 hsz).mono λv V2 l2 ⟨r1,hv,hr⟩=>⟨r1,hv,λb1 V3 l3 _ hb1 => ?_⟩⟩;have hnew:V3.has (some (Addr.mk b1 0 none)) [r1.v]:=e05 (cs:=[r1.v]) (j:=0) hb1 (λi v hv=>by rw[Am]; exact hv) rfl;refine⟨l,_,hL,hnew,rfl,by intro v hv; simp at hv; subst hv; rfl,by unfold maxLen; omega,by omega,λc1 l3' hl3 => ?_⟩;rw[i64w (by omega) (by omega)];have L23:=Gx l2 l3;refine⟨⟨k+1,_,by omega,by omega,hl3,rfl,?_⟩,by omega⟩;rw[tk];exact(hC.imp λ_ _ ⟨s,e,hs⟩=>⟨s,e,He (Hh L23) L23 hs⟩).append (Hd rfl ⟨_,rfl,H01.le l3 hr⟩)
 have e:k=rows.length:=by simp at hge; omega
 subst e;rw[Cu]at hC;intro b2 V4 l4 hb2;exact⟨_,rfl,k04 hL hb2 (hC.imp λ_ _ ⟨s,e,hs⟩=>⟨s,e,He (Hh l4) l4 hs⟩) (by rw[Bt])⟩
theorem U0m{V:View}{w:Sl}{pf:Option Addr}{ws:List Cq}(hq:H01 V w ws) :
 a00 prog K05 #[w.v,.pointer pf] V λv V'=>∃r:Fn2,v=r.val X01/\r.p0=pf/\V'.load r.p1=some w.v:=by
 refine A0a w pf V _ λb1 V1 l1 hb1=>⟨_,rfl,rfl,?_⟩;have:=g09 (j:=0) hb1;simpa [Addr.add]using this
theorem P0q{V:View}{g:x00}{w v:Sl}{rows:List (List Cq)}{ws vs:List Cq}(back:Bool)(S T:Nat)(h:c01 5 numC V g.rows rows)(hr:Rect rows)(hq:H01 V w ws)(hv:H01 V v vs)
 (hS:Q08 S rows) (hT:okSz T ws) (hT2:okSz T vs) (s1:1<=S) (t1:1<=T) (hsz:64*(64*(S+T+2)+9+T+2)<=2^39) :
 a00 prog i0c #[g.val,w.v,v.v,.func (.func (tfn back)) #[] #[]] V λu V'=>∃r:x00,u = .tuple #[r.val,.int .i64 (b0j rows ws vs)]/\c01 5 numC V' r.rows (y0o back rows ws vs):=by
 have hwl:=hq.len;have hvl:=hv.len;have bad:∀V':View,y06 rows ws vs=false->∃r:x00,Value.tuple #[(x00.mk (Sl.mk none 0 0)).val,.int .i64 4] = .tuple #[r.val,.int .i64 (b0j rows ws vs)]/\c01 5 numC V' r.rows (y0o back rows ws vs):=λV' e=>by
  refine⟨⟨⟨none,0,0⟩⟩,?_,?_⟩
  . unfold b0j; rw[e]; rfl
  unfold y0o; rw[e]; exact n00.nil
 have tail:y06 rows ws vs=true->∀(V3:View),V.le V3->∀(b1:Nat) (V4:View),V3.le V4->V4 b1=some (List.toArray ([.func (.func (tfn back)) #[] #[]])) ->
  a00 prog K05 #[w.v,.pointer (some (Addr.mk b1 0 none))] V4 λu V5=>∃r5:Fn2,u=r5.val X01 /\
  a00 prog T05 #[g.val,r5.val X01] V5 λu V6=>∃r6:x00,u=r6.val /\
  a00 prog N03 #[r6.val] V6 λu V7=>∃r7:x00,u=r7.val /\
  a00 prog K05 #[v.v,.pointer (some (Addr.mk b1 0 none))] V7 λu V8=>∃r8:Fn2,u=r8.val X01 /\
  a00 prog T05 #[r7.val,r8.val X01] V8 λu V9=>∃r9:x00,u=r9.val /\
  a00 prog N03 #[r9.val] V9 λu V10=>∃r10:x00,u=r10.val /\
  ∃r:x00,Value.tuple #[r10.val,.int .i64 0] = .tuple #[r.val,.int .i64 (b0j rows ws vs)]/\c01 5 numC V10 r.rows (y0o back rows ws vs):=λok V3 l3 b1 V4 l4 hb1=>by
  obtain⟨n,m,hn,hm,ew,ev,M⟩:=T0m ok hr;have L4:=Gx l3 l4;have p6:2^n<=2^6:=Ar (by omega) hn;have q6:2^m<=2^6:=Ar (by omega) hm;have hf:V4.load (some (Addr.mk b1 0 none))=some (.func (.func (tfn back)) #[] #[]):=by
   have:=g09 (j:=0) hb1;simpa [Addr.add]using this
  refine(U0m (hq.le L4)).mono λu V5 l5 ⟨r5,hu,e1,e2⟩=>⟨r5,hu,?_⟩;have L5:=Gx L4 l5;refine(e0h (w:=w) back S T (Hi Hh L5 h) (by rw[M.len]; omega) (by rw[e1]; exact H02 l5 hf) e2 hm M.row ew (hq.le L5) hS hT s1 t1 (by omega)).mono λu V6 l6 ⟨r6,hu,h6⟩=>⟨r6,hu,?_⟩;have M1:=M.map back ew;have z1:=A0y M hm back ew hS hT s1 t1;refine(y0b h6 M1.rect (by rw[M1.len]; omega) (by rw[M1.cols]; omega) Cq.zero).mono λu V7 l7 ⟨r7,hu,h7⟩=>⟨r7,hu,?_⟩;have M2:=M1.turn;have z2:=z0o z1 (by omega);have L7:=Gx L5 (Gx l6 l7);refine(U0m (hv.le L7)).mono λu V8 l8 ⟨r8,hu,e3,e4⟩=>⟨r8,hu,?_⟩;have L8:=Gx L7 l8;refine(e0h (w:=v) back _ T (Hi Hh l8 h7) (by rw[M2.len]; omega) (by rw[e3]; exact H02 (Gx l5 (Gx l6 (Gx l7 l8))) hf) e4 hn M2.row ev (hv.le L8) z2 hT2 (by omega) t1 (by omega)).mono λu V9 l9 ⟨r9,hu,h9⟩=>⟨r9,hu,?_⟩;have M3:=M2.map back ev;refine(y0b h9 M3.rect (by rw[M3.len]; omega) (by rw[M3.cols]; omega) Cq.zero).mono λu V10 l10 ⟨r10,hu,h10⟩=>⟨r10,hu,r10,?_,?_⟩
  . unfold b0j; rw[ok]; rfl
  unfold y0o; rw[if_pos ok]; exact h10
 have len:∀ {V':View} (n:Nat),a00 prog P0b #[.int .i64 (n:Int)] V' λu _=>u = .bool (lenB n):=λ{V'} n=>(E07 (by omega)).mono λu _ _ hu=>by rw[hu,Aa]
 have b1:lenB ws.length=false->y06 rows ws vs=false:=λe=>by unfold y06; rw[e]; rfl
 have b2:lenB vs.length=false->y06 rows ws vs=false:=λe=>by unfold y06; rw[e]; simp
 have b3:T01 rows≠ws.length->y06 rows ws vs=false:=λe=>by unfold y06; simp[e]
 have b4:rows.length≠vs.length->y06 rows ws vs=false:=λe=>by unfold y06; simp[e]
 cases back with
 | false =>
   refine N05 g w v ⟨⟩ V _ ((K03 h).mono λu V1 l1 hu=>⟨_,_,hu,?_⟩);rw[hwl,hvl];refine(len _).mono λu V2 l2 hu=>⟨_,hu,λc=>bad V2 (b1 (by simpa using c)),λc=>(len _).mono λu V3 l3 hu=>⟨_,hu,λc2=>bad V3 (b2 (by simpa using c2)),λc2=>⟨λc3=>bad V3 (b3 λe => ?_),λc3=>⟨λc4=>bad V3 (b4 λe => ?_),λc4 => ?_⟩⟩⟩⟩
   . rw[e]at c3; simp at c3
   . rw[e]at c4; simp at c4
   refine tail ?_ V3 (Gx l1 (Gx l2 l3));unfold y06;simp at c c2 c3 c4;have c3:T01 rows=ws.length:=by omega
   have c4:rows.length=vs.length:=by omega
   rw[c,c2,Aq c3,Aq c4]; rfl
 | true =>
   refine q05 g w v ⟨⟩ V _ ((K03 h).mono λu V1 l1 hu=>⟨_,_,hu,?_⟩);rw[hwl,hvl];refine(len _).mono λu V2 l2 hu=>⟨_,hu,λc=>bad V2 (b1 (by simpa using c)),λc=>(len _).mono λu V3 l3 hu=>⟨_,hu,λc2=>bad V3 (b2 (by simpa using c2)),λc2=>⟨λc3=>bad V3 (b3 λe => ?_),λc3=>⟨λc4=>bad V3 (b4 λe => ?_),λc4 => ?_⟩⟩⟩⟩
   . rw[e]at c3; simp at c3
   . rw[e]at c4; simp at c4
   refine tail ?_ V3 (Gx l1 (Gx l2 l3));unfold y06;simp at c c2 c3 c4;have c3:T01 rows=ws.length:=by omega
   have c4:rows.length=vs.length:=by omega
   rw[c,c2,Aq c3,Aq c4]; rfl
theorem c0j{V:View}{g:x00}{w v:Sl}{rows:List (List Cq)}{ws vs:List Cq}(S T:Nat)(h:c01 5 numC V g.rows rows)(hr:Rect rows)(hq:H01 V w ws)(hv:H01 V v vs)
 (hS:Q08 S rows) (hT:okSz T ws) (hT2:okSz T vs) (s1:1<=S) (t1:1<=T) (hsz:64*(64*(S+T+2)+9+T+2)<=2^39) :
 a00 prog U08 #[g.val,w.v,v.v] V λu V'=>∃r:x00,u = .tuple #[r.val,.int .i64 (b0j rows ws vs)]/\c01 5 numC V' r.rows (y0o false rows ws vs) :=
 F08 g w v V _ ((P0q false S T h hr hq hv hS hT hT2 s1 t1 hsz).mono λu V1 _ ⟨r,hu,h1⟩=>⟨r,_,hu,r,rfl,h1⟩)
theorem A0o{V:View}{g:x00}{w v:Sl}{rows:List (List Cq)}{ws vs:List Cq}(S T:Nat)(h:c01 5 numC V g.rows rows)(hr:Rect rows)(hq:H01 V w ws)(hv:H01 V v vs)
 (hS:Q08 S rows) (hT:okSz T ws) (hT2:okSz T vs) (s1:1<=S) (t1:1<=T) (hsz:64*(64*(S+T+2)+9+T+2)<=2^39) :
 a00 prog c0a #[g.val,w.v,v.v] V λu V'=>∃r:x00,u = .tuple #[r.val,.int .i64 (b0j rows ws vs)]/\c01 5 numC V' r.rows (y0o true rows ws vs) :=
 y09 g w v V _ ((P0q true S T h hr hq hv hS hT hT2 s1 t1 hsz).mono λu V1 _ ⟨r,hu,h1⟩=>⟨r,_,hu,r,rfl,h1⟩)
theorem C0y{V:View}{p:Option Addr}{v:Value}(h:V.has p [v]):V.load p=some v:=by
 have:=h 0 v rfl;cases p with
 | none=>exact this
 | some a=>simpa [Addr.add]using this
theorem m0w{P:Program}{f:FuncId}{args:Array Value}{m V:View}{K:Value->View->View->Prop}(h:m.apart V->f03 P f args m V K):f03 P f args m V K :=
 λw hw hm=>h hm.apart w hw hm
theorem Q0q{V:View}{g:x00}{rows:List (List Bool)}{i j:Nat}(h:c01 1 Go.Vc.boolC V g.rows rows)(hr:Rect rows)(hi:i<rows.length)(hj:j<T01 rows) :
 a00 prog e0b #[g.val,.int .i64 (i:Int),.int .i64 (j:Int)] V λv _=>v = .tuple #[.bool ((rows.getD i []).getD j false),.int .i64 0]:=by
 refine e0a g i j V _ ((F0f h).mono λv V1 l1 hv=>⟨_,_,hv,λc => ?_,λ_=>⟨λc2 => ?_,λ_=>⟨λc3 => ?_,λ_=>⟨λc4 => ?_,λ_ => ?_⟩⟩⟩⟩)
 . have:=Ak c; omega
 . have:=Ak c2; omega
 . have:=Ak c3; omega
 . have:=Ak c4; omega
 have ek:rows[i]?=some (rows.getD i []):=M08 hi [];obtain⟨g1,s,h1,h2⟩:=(Hi Go.Vc.boolC.le l1 h).row (t:=(i:Int)) (by omega) (by rw[Aa]; exact ek);have hrl:=p0e hr ek;obtain⟨g2,x,hx,_,hh,_⟩:=Hf h2 (t:=(j:Int)) (by omega) (z:=(rows.getD i []).getD j false) (by rw[Aa]; exact M08 (by omega) false);exact⟨g1,s,h1,g2,_,C0y (by rw[show x=_ from hx]at hh; exact hh),rfl⟩
theorem D0y{V:View}{g:x00}{rows:List (List Bool)}{i j:Nat}(h:c01 1 Go.Vc.boolC V g.rows rows)(hr:Rect rows)(hi:i<rows.length)(hj:j<T01 rows) :
 a00 prog C0h #[g.val,.int .i64 (i:Int),.int .i64 (j:Int)] V λv _=>v = .bool (atG false rows i j) :=
 H0g g i j V _ ((Q0q h hr hi hj).mono λv _ _ hv=>⟨_,_,hv,rfl⟩)
theorem Z10{a b:NumV}(h:a.val.cells.toList=b.val.cells.toList):a=b:=by
 obtain⟨⟨n1,⟨a1,l1,c1⟩⟩,⟨n2,⟨a2,l2,c2⟩⟩,⟨a3,l3,c3⟩⟩:=a;obtain⟨⟨m1,⟨b1,k1,d1⟩⟩,⟨m2,⟨b2,k2,d2⟩⟩,⟨b3,k3,d3⟩⟩:=b;rw[k0k,k0k]at h;simp[Sl.v]at h;obtain⟨rfl,⟨rfl,rfl,rfl⟩,rfl,⟨rfl,rfl,rfl⟩,rfl,rfl,rfl⟩:=h;rfl
theorem P0t{V:View}{g:x00}{rows:List (List Cq)}{i j:Nat}(h:c01 5 numC V g.rows rows)(hr:Rect rows)(hi:i<rows.length)(hj:j<T01 rows) :
 a00 prog n0f #[g.val,.int .i64 (i:Int),.int .i64 (j:Int)] V λv V'=>∃r:NumV,v=r.val/\Q00 V' r (atG Cq.zero rows i j):=by
 refine b0e g i j V _ ((H0k (i:=(i:Int)) (j:=(j:Int)) h hr Cq.zero).mono λv V1 _ ⟨r,e,hv,h1,_⟩=>⟨r,e,hv,r,rfl,?_⟩);obtain⟨_,y,e1,e2⟩:=h1 ⟨⟨by omega,by omega⟩,by omega,by omega⟩;rw[Aa,Aa]at e2;rw[Z10 e1]; exact e2
theorem a11{V:View}{g k:x00}{rows wts:List (List Cq)}(h:c01 5 numC V g.rows rows)(hk:c01 5 numC V k.rows wts) :
 a00 prog b0a #[g.val,k.val] V λv _=>v = .bool (decide (rows.length=wts.length/\T01 rows=T01 wts)):=by
 refine A09 g k V _ ((K03 h).mono λv V1 l1 hv=>⟨_,_,hv,(K03 (Hi Hh l1 hk)).mono λv V2 _ hv=>⟨_,_,hv,λc => ?_,λc => ?_⟩⟩)
 . have c:rows.length=wts.length:=by have:(rows.length:Int)=wts.length:=(by simpa using c); omega
   congr 1;by_cases d:T01 rows=T01 wts
   . rw[Aq ⟨c,d⟩,d]; simp
   rw[Ao (λx=>d x.2)]; simp; omega
 have c:¬rows.length=wts.length:=λe=>by rw[e]at c; simp at c
 rw[Ao (λx=>c x.1)]
theorem c11{V:View}{g k:x00}{rows:List (List Cq)}{wts:List (List Bool)}(h:c01 5 numC V g.rows rows)(hk:c01 1 Go.Vc.boolC V k.rows wts) :
 a00 prog C0b #[g.val,k.val] V λv _=>v = .bool (decide (rows.length=wts.length/\T01 rows=T01 wts)):=by
 refine l0b g k V _ ((K03 h).mono λv V1 l1 hv=>⟨_,_,hv,(F0f (Hi Go.Vc.boolC.le l1 hk)).mono λv V2 _ hv=>⟨_,_,hv,λc => ?_,λc => ?_⟩⟩)
 . have c:rows.length=wts.length:=by have:(rows.length:Int)=wts.length:=(by simpa using c); omega
   congr 1;by_cases d:T01 rows=T01 wts
   . rw[Aq ⟨c,d⟩,d]; simp
   rw[Ao (λx=>d x.2)]; simp; omega
 have c:¬rows.length=wts.length:=λe=>by rw[e]at c; simp at c
 rw[Ao (λx=>c x.1)]
theorem S0q{α:Type}{n m:Nat}(A:Nat->Nat->α)(n1:1<=n)(n2:n<=64)(m1:1<=m)(m2:m<=64):o0e (matL n m A)=matL n m A:=by
 have hc:T01 (matL n m A)=m:=by
  obtain⟨row,e,hl⟩:=I0a (rows:=matL n m A) (by rw[O00]; omega);rw[W06 (by omega)]at e;obtain rfl:=Option.some.inj e;rw[<-hl,B00]
 unfold o0e;rw[if_pos];unfold y05;rw[O00,Aq n1,Aq n2,Fe,Fe,Bk9];intro row hr;unfold matL at hr;obtain⟨i,_,rfl⟩:=Bc.1 hr;unfold B07;rw[hc,B00,Aq m1,Aq m2,Aq rfl]; rfl
theorem B0o{V m:View}{b0:Nat}{f:Fn5}{R C:Nat}(A:Nat->Nat->Cq)(bd:Nat->Nat->Int)(r1:1<=R)(r2:R<=64)(c1:1<=C)(c2:C<=64)(h0:m b0=some #[.int .i64 (bd 0 0)])(hb:∀i,bd i C=bd (i+1) 0)
 (hcl:∀(i k:Nat) (m' V':View),i<R->k<C->V.le V'->m' b0=some #[.int .i64 (bd i k)] ->
   f03 prog p07 #[.int .i64 (i:Int),.int .i64 (k:Int),.pointer f.p0,.pointer f.p1,.pointer f.p2,.pointer f.p3,.pointer f.p4] m' V' λv m2 V2=>∃r:NumV,v=r.val/\Q00 V2 r (A i k)/\m2 b0=some #[.int .i64 (bd i (k+1))]/\∀b,b≠b0->m2 b=m' b) :
 f03 prog o0f #[.int .i64 (R:Int),.int .i64 (C:Int),f.val p07] m V λv m' V'=>∃g:x00,v=g.val/\c01 5 numC (k08 m' V') g.rows (matL R C A)/\m'.apart V'/\m' b0=some #[.int .i64 (bd R 0)]:=by
 refine a07 m R C f V _
  (λ_ x V'=>∃t:Nat,x.t16=t/\t<=R/\x.o13.length=R/\x04 5 numC (x.o0.del b0) V' x.o13 R (λi=>if i<t then rowL C (A i)else [])/\x.o0 b0=some #[.int .i64 (bd t 0)]) (λ_ x _=>R-x.t16.toNat)
  (λc x V'=>∃t k:Nat,c.t16=t/\c.t8=t/\t<R/\x.t20=k/\k<=C/\x.o13.length=R/\x04 5 numC (x.o0.del b0) V' x.o13 R (λi=>if i<t then rowL C (A i)else if i=t then rowL k (A t)else [])/\x.o0 b0=some #[.int .i64 (bd t k)]) (λ_ x _=>C-x.t20.toNat) ?_
 rw[Aa];refine⟨⟨by omega,by omega,by omega,by omega⟩,⟨0,rfl,by omega,by simp,?_,h0⟩,?_⟩
 . rw[f10]; exact(e0t (m.del b0) V R).congr λi _=>by rw[if_neg (by omega)]
 rintro⟨t16,o0,o6,o13⟩ V1 l1 ⟨t,et,ht,hol,hR,hb0⟩;dsimp only at et hol hR hb0 ⊢;subst et;refine⟨λhlt=>⟨⟨t,0,rfl,rfl,by have:=Ak hlt; omega,rfl,by omega,hol,hR.congr λi hi => ?_,hb0⟩,?_⟩,λhge => ?_⟩
 . by_cases e:i<t
   . rw[if_pos e,if_pos e]
   rw[if_neg e,if_neg e];split<;>rfl
 . rintro⟨t20,o0',o13'⟩ V2 l2 ⟨t',k,et,_,htR,ek,hk,hol',hR',hb0'⟩;dsimp only at et ek hol' hR' hb0' ⊢;obtain rfl:t'=t:=by omega
   subst ek;refine⟨λhlt2 => ?_,λhge2 => ?_⟩
   . have hkC:k<C:=by have:=Ak hlt2; omega
     obtain⟨s3,e3,_⟩:=hR'.row (i:=t') htR;refine⟨⟨by omega,by omega⟩,s3,by rw[Aa,Ct,Am]; exact e3,(hcl t' k o0' V2 htR hkC (Gx l1 l2) hb0').mono λv m1 V3 l3 _ ⟨r,hv,hr,hm1,hm2⟩=>⟨r,hv,λb1 V4 l4 _ hb1 => ?_⟩⟩;have hR3:x04 5 numC (m1.del b0) V4 o13' R (λi=>if i<t' then rowL C (A i)else if i=t' then rowL k (A t')else []):=(hR'.le Hh (Gx l3 l4)).redel hm2
     obtain⟨s3',e3',q1,q2,q3,⟨o3,q4,q5,q6⟩,q7⟩:=hR3.row (i:=t') htR;have es:s3'=s3:=q0h (Option.some.inj (e3'.symm.trans e3));subst es;rw[if_neg (by omega),if_pos rfl]at q1 q6;rw[B00]at q1;have hnew:V4.has (some (Addr.mk b1 0 none)) r.val.cells.toList:=e05 (cs:=r.val.cells.toList) (j:=0) hb1 (λi v hv=>by rw[Am]; exact hv) rfl;have hrc:numC V4 r.val.cells.toList (A t' k):=⟨r,rfl,hr.le l4⟩;have q4':has2 m1 V4 s3'.a o3:=q4.imp (λh j v hj=>by
      have:=h j v hj;unfold View.load at this ⊢;cases e:s3'.a with
      | none=>rw[e]at this; simp at this
      | some ad =>
        rw[e]at this;simp only[Aw]at this ⊢;split at this
        . simp at this
        rename_i hs;rw[if_neg hs];cases hmb:(m1.del b0) (ad.add j).block with
        | none=>rw[hmb]at this; simp at this
        | some cs=>rw[(O0a hmb).2]; rw[hmb]at this; exact this) id
     refine⟨o3,_,⟨q2,q3⟩,q4',q5,.inr hnew,rfl,oneN hrc,by unfold maxLen; omega,by omega,λ_ h2 => ?_,λa1 c1 m2 ha=>⟨⟨by omega,by omega⟩,by rw[hol',Aa]; omega,?_⟩⟩
     . obtain⟨b,off,cs,g1,g2,g3⟩:=q7 1 (by omega) h2;exact⟨b,off,cs,g1,(O0a g2).2,g3⟩
     have hm0:m1 b0≠none:=by rw[hm1]; simp
     obtain⟨k1,k2⟩:=hR3.appX hm0 (i:=t') htR e3 (z:=A t' k) rfl hrc (o':=o3) (by rw[if_neg (by omega),if_pos rfl]; exact q6) ha;rw[i64w (by omega) (by omega)];refine⟨⟨t',k+1,rfl,rfl,htR,by omega,by omega,by simp[hol'],?_,by rw[k2,hm1]⟩,by omega⟩;have e1:(0+Int.toNat (t':Int)*1)=t':=by omega
     rw[e1];refine k1.congr λi hi => ?_;by_cases e:i=t'
     . subst e;simp only[Az,Fs9,At9];exact K0c _ _
     simp only[if_neg e]
   have e:k=C:=by have:=Al hge2; omega
   subst e;rw[i64w (by omega) (by omega)];refine⟨⟨t'+1,by omega,by omega,hol',hR'.congr λi hi => ?_,by rw[hb0',hb]⟩,by omega⟩;by_cases e:i<t'
   . rw[if_pos e,if_pos (by omega)]
   rw[if_neg e];by_cases e2:i=t'
   . subst e2; rw[if_pos rfl,if_pos (by omega)]
   rw[if_neg e2,if_neg (by omega)]
 have e:t=R:=by have:=Al hge; omega
 subst e;intro b3 hb3 hb3';have hR2:x04 5 numC o0 V1 o13 t (λi=>rowL C (A i)):=(hR.congr λi hi=>by rw[if_pos hi]).undel;refine m0w λap => ?_;refine d0t (X07 ((hR2.mat hol hb3).known (Hh (W0a ap)) (λb cs g=>I07 g))) λv V2' V3 l3 e ap3 ⟨g,hv,hg⟩ => ?_;subst e;rw[S0q A r1 r2 c1 c2]at hg;have hge0:u0f (matL t C A)=0:=by
  have:=S0q A r1 r2 c1 c2;unfold u0f;unfold o0e at this;split at this
  . rename_i h; rw[if_pos h]
  have:=Ck List.length this; rw[O00]at this; simp at this; omega
 refine⟨g,_,hv,g,rfl,hg,ap3,?_⟩;have:b0≠b3:=λe=>by rw[<-e,hb0]at hb3; simp at hb3
 unfold I00; rw[if_neg this]; exact hb0
def chg(b:Bool)(z w:Cq):Cq:=if b=true then(if w=Cq.zero then Cq.zero else z.div w)else z*w
def chE(b:Bool)(w:Cq):Int:=if b=true/\w=Cq.zero then 3 else 0
def chf:Bool->FuncId
 | true=>g0c
 | false=>a0d
theorem d11(b:Bool){V:View}{x y:NumV}{z w:Cq}(hx:Q00 V x z)(hy:Q00 V y w)(hz:z.sz<=2^36)(hw:w.sz<=2^36) :
 a00 prog (chf b) #[x.val,y.val] V λv V'=>∃r:NumV,v = .tuple #[r.val,.int .i64 (chE b w)]/\Q00 V' r (chg b z w):=by
 cases b with
 | false=>exact I0c x y V _ ((m03 hx hy (by omega) (by omega)).mono λv V1 _ ⟨r,hv,hr⟩=>⟨r,hv,r,rfl,hr⟩)
 | true =>
   refine I0b x y V _ ((U09 hx hy hz hw).mono λv V1 _ ⟨r,e,hv,h1,h2⟩=>⟨r,e,hv,r,?_,?_⟩)
   . by_cases c:w=Cq.zero
     . rw[(h1 c).1]; unfold chE; rw[if_pos ⟨rfl,c⟩]
     rw[(h2 c).1]; unfold chE; rw[if_neg (λx=>c x.2)]
   by_cases c:w=Cq.zero
   . unfold chg; rw[if_pos rfl,if_pos c]; exact(h1 c).2
   unfold chg; rw[if_pos rfl,if_neg c]; exact(h2 c).2
def ledC(b:Bool)(S W:List (List Cq))(K:List (List Bool))(i k:Nat):Cq:=if atG false K i k=true then chg b (atG Cq.zero S i k) (atG Cq.zero W i k)else Cq.zero
theorem ldv{V:View}{q:Nat}{v:Value}(h:V q=some #[v]):V.load (some (Addr.mk q 0 none))=some v:=by
 unfold View.load; simp[h]
theorem Q08.at{S:Nat}{rows:List (List Cq)}(h:Q08 S rows)(h1:1<=S)(i k:Nat):(atG Cq.zero rows i k).sz<=S:=by
 unfold atG;rcases Ad i rows.length with g|g
 . exact(h _ (Bn (M08 g []))).at h1 k
 have:rows.getD i []=[]:=by simp[List.getD,Ab g]
 rw[this]; exact Ah K06 h1
theorem E0y(b:Bool){V m:View}{s k w:x00}{q2 q3 q4 q5 b0:Nat}{S W:List (List Cq)}{K:List (List Bool)}{i j:Nat}{e:Int}{Z:Nat}
 (g2:V q2=some #[s.rows.v]) (g3:V q3=some #[k.rows.v]) (g4:V q4=some #[.func (.func (chf b)) #[] #[]]) (g5:V q5=some #[w.rows.v])
 (hs:c01 5 numC V s.rows S) (rs:Rect S) (hk:c01 1 Go.Vc.boolC V k.rows K) (rk:Rect K) (hw:c01 5 numC V w.rows W) (rw':Rect W)
 (hi:i<S.length) (hj:j<T01 S) (lk:K.length=S.length/\T01 K=T01 S) (lw:W.length=S.length/\T01 W=T01 S) (zs:Q08 Z S) (zw:Q08 Z W) (z1:1<=Z) (hZ:Z<=2^36)
 (h0:m b0=some #[.int .i64 e]) :
 f03 prog p07 #[.int .i64 (i:Int),.int .i64 (j:Int),.pointer (some (Addr.mk q2 0 none)),.pointer (some (Addr.mk q3 0 none)),.pointer (some (Addr.mk q4 0 none)),.pointer (some (Addr.mk q5 0 none)),.pointer (some (Addr.mk b0 0 none))] m V λv m2 V2 =>
  ∃r:NumV,v=r.val/\Q00 V2 r (ledC b S W K i j)/\m2 b0=some #[.int .i64 (if e=0 then(if atG false K i j=true then chE b (atG Cq.zero W i j)else 0)else e)]/\∀x,x≠b0->m2 x=m x:=by
 have key:=@d11 b;cases b
 case' false=>refine F06 m i j _ _ _ _ _ V _ ?_
 case' true=>refine u06 m i j _ _ _ _ _ V _ ?_
 all_goals
  refine⟨s,T09 (l:=[s.rows.v]) g2,rfl,l09 (P0t hs rs hi hj) λv V1 l1 _ ⟨r1,hv,h1⟩=>⟨r1,hv,?_⟩⟩;refine⟨k,T09 (l:=[k.rows.v]) (l1 _ _ g3),rfl,l09 (D0y (Hi Go.Vc.boolC.le l1 hk) rk (by omega) (by omega)) λv V2 l2 _ hv=>⟨_,hv,λc => ?_,λc => ?_⟩⟩
  . have c:¬atG false K i j=true:=by simpa using c
    refine l09 (a02 (n:=0) (by decide) (by decide)) λv V3 l3 _ ⟨r3,hv,h3⟩=>⟨r3,hv,?_⟩;refine l09 (u0b h3) λv V4 l4 _ ⟨r4,hv,h4⟩=>⟨r4,hv,r4,rfl,?_,?_,λx _=>rfl⟩
    . unfold ledC; rw[if_neg c]; exact h4
    rw[h0,if_neg c];by_cases d:e=0
    . rw[if_pos d,d]
    rw[if_neg d]
  have c:atG false K i j=true:=by simpa using c
  refine⟨⟨⟩,ldv (Gx l1 l2 _ _ g4),w,T09 (l:=[w.rows.v]) (Gx l1 l2 _ _ g5),rfl,?_⟩;refine l09 (P0t (Hi Hh (Gx l1 l2) hw) rw' (by omega) (by omega)) λv V5 l5 _ ⟨r5,hv,h5⟩=>⟨r5,hv,?_⟩;refine l09 (key (h1.le (Gx l2 l5)) h5 (Ah (zs.at z1 i j) hZ) (Ah (zw.at z1 i j) hZ)) λv V6 l6 _ ⟨r6,hv,h6⟩=>⟨r6,_,hv,e,.inl (ldv h0),λd => ?_,λd => ?_⟩
  . have d:e=0:=by simpa using d
    refine⟨b0,0,[.int .i64 e],rfl,h0,An9 1,r6,rfl,?_,?_,λx hx => ?_⟩
    . unfold ledC; rw[if_pos c]; exact h6
    . rw[if_pos d,if_pos c]; unfold I00; rw[if_pos rfl]; rfl
    unfold I00; rw[if_neg hx]
  have d:¬e=0:=by simpa using d
  refine⟨r6,rfl,?_,?_,λx hx=>rfl⟩
  . unfold ledC; rw[if_pos c]; exact h6
  rw[if_neg d]; exact h0
def badC(b:Bool)(W:List (List Cq))(K:List (List Bool))(i k:Nat):Bool:=atG false K i k&&decide (chE b (atG Cq.zero W i k)≠0)
def d0j(b:Bool)(W:List (List Cq))(K:List (List Bool))(C i k:Nat):Bool:=((List.range i).any λi'=>(List.range C).any (badC b W K i'))||(List.range k).any (badC b W K i)
theorem U0v(b:Bool)(W:List (List Cq))(K:List (List Bool))(C i:Nat):d0j b W K C i C=d0j b W K C (i+1) 0:=by
 unfold d0j;rw[Cz,List.any_append];simp
theorem W0v(b:Bool)(W:List (List Cq))(K:List (List Bool))(C i k:Nat):d0j b W K C i (k+1)=(d0j b W K C i k||badC b W K i k):=by
 unfold d0j;rw[Cz (n:=k),List.any_append,<-Bool.or_assoc];simp
theorem a15(b:Bool)(w:Cq):chE b w=0\/chE b w=3:=by unfold chE; split<;>simp
def f0h(rows wts:List (List Cq))(K:List (List Bool)):Prop:=(rows.length=wts.length/\T01 rows=T01 wts)/\rows.length=K.length/\T01 rows=T01 K
instance (rows wts:List (List Cq)) (K:List (List Bool)):Decidable (f0h rows wts K):=by unfold f0h; infer_instance
def ledE(b:Bool)(rows:List (List Cq))(ws vs:List Cq)(wts:List (List Cq))(K:List (List Bool)):Int :=
 if y06 rows ws vs=true/\f0h rows wts K then(if d0j b wts K (T01 rows) rows.length 0=true then 3 else 0)else 4
def ledF(b:Bool)(rows:List (List Cq))(ws vs:List Cq)(wts:List (List Cq))(K:List (List Bool)):List (List Cq) :=
 d0h true (matL rows.length (T01 rows) (ledC b (d0h false rows ws vs) wts K)) ws vs
def ledR(b:Bool)(rows:List (List Cq))(ws vs:List Cq)(wts:List (List Cq))(K:List (List Bool)):List (List Cq):=if ledE b rows ws vs wts K=0 then ledF b rows ws vs wts K else []
theorem p06{α:Type}{n m:Nat}(A:Nat->Nat->α)(h:1<=n):T01 (matL n m A)=m:=by
 obtain⟨row,e,hl⟩:=I0a (rows:=matL n m A) (by rw[O00]; omega);rw[W06 (by omega)]at e;obtain rfl:=Option.some.inj e;rw[<-hl,B00]
theorem z0b{α:Type}{n m:Nat}(A:Nat->Nat->α)(h:1<=n):Rect (matL n m A):=by
 intro row hr;rw[p06 A h];unfold matL at hr;obtain⟨i,_,rfl⟩:=Bc.1 hr;exact B00 _ _
theorem Q0c{S n m:Nat}{A:Nat->Nat->Cq}(h:∀i k,i<n->k<m->(A i k).sz<=S):Q08 S (matL n m A):=by
 intro row hr z hz;unfold matL at hr;obtain⟨i,hi,rfl⟩:=Bc.1 hr;unfold rowL at hz;obtain⟨k,hk,rfl⟩:=Bc.1 hz;exact h i k (by simpa using hi) (by simpa using hk)
set_option maxHeartbeats 1000000 in
theorem Q0t(b:Bool){V:View}{g wg kg:x00}{w v:Sl}{rows wts:List (List Cq)}{ws vs:List Cq}{K:List (List Bool)}(S T Z Zc:Nat)(h:c01 5 numC V g.rows rows)(hr:Rect rows)(hq:H01 V w ws)(hv:H01 V v vs)
 (hw:c01 5 numC V wg.rows wts) (rw':Rect wts) (hk:c01 1 Go.Vc.boolC V kg.rows K) (rk:Rect K)
 (hS:Q08 S rows) (hT:okSz T ws) (hT2:okSz T vs) (s1:1<=S) (t1:1<=T) (hZ1:64*(64*(S+T+2)+9+T+2)+9<=Z) (hZ:Z<=2^36) (zw:Q08 Z wts)
 (hc:∀i k,i<rows.length->k<T01 rows->(ledC b (d0h false rows ws vs) wts K i k).sz<=Zc) (c1:1<=Zc) (hsz:64*(64*(Zc+T+2)+9+T+2)<=2^39) :
 a00 prog c0b #[g.val,w.v,v.v,wg.val,kg.val,.func (.func (chf b)) #[] #[]] V λu V'=>∃r:x00,u = .tuple #[r.val,.int .i64 (ledE b rows ws vs wts K)]/\c01 5 numC V' r.rows (ledR b rows ws vs wts K):=by
 have bad:∀(V':View) (e:Int),ledE b rows ws vs wts K=e->e≠0->∃r:x00,Value.tuple #[(x00.mk (Sl.mk none 0 0)).val,.int .i64 e] = .tuple #[r.val,.int .i64 (ledE b rows ws vs wts K)]/\c01 5 numC V' r.rows (ledR b rows ws vs wts K):=λV' e he hne=>by
  refine⟨⟨⟨none,0,0⟩⟩,by rw[he],?_⟩;unfold ledR; rw[if_neg (by rw[he]; exact hne)]; exact n00.nil
 have k1:=@E0y b;obtain⟨A,hA⟩:∃A,A=ledC b (d0h false rows ws vs) wts K:=⟨_,rfl⟩;obtain⟨bt,hbt⟩:∃bt,bt=d0j b wts K (T01 rows):=⟨_,rfl⟩;obtain⟨bc,hbc⟩:∃bc,bc=badC b wts K:=⟨_,rfl⟩;have hlast:∀i,bt i (T01 rows)=bt (i+1) 0:=λi=>by rw[hbt]; exact U0v _ _ _ _ _
 have hstep:∀i k,bt i (k+1)=(bt i k||bc i k):=λi k=>by rw[hbt,hbc]; exact W0v _ _ _ _ _ _
 have hcell:∀i k,bc i k=(atG false K i k&&decide (chE b (atG Cq.zero wts i k)≠0)):=λi k=>by rw[hbc]; rfl
 have hE:y06 rows ws vs=true->f0h rows wts K->ledE b rows ws vs wts K=if bt rows.length 0=true then 3 else 0:=λx y=>by unfold ledE; rw[if_pos ⟨x,y⟩,hbt]
 have hF:ledF b rows ws vs wts K=d0h true (matL rows.length (T01 rows) A) ws vs:=by rw[hA]; rfl
 have hcA:∀i k,i<rows.length->k<T01 rows->(A i k).sz<=Zc:=by rw[hA]; exact hc
 have h00:bt 0 0=false:=by rw[hbt]; rfl
 cases b
 case' false=>refine Q06 g w v wg kg ⟨⟩ V _ ?_
 case' true=>refine G06 g w v wg kg ⟨⟩ V _ ?_
 all_goals
  refine(c0j S T h hr hq hv hS hT hT2 s1 t1 (by omega)).mono λu V1 l1 ⟨r1,hu,h1⟩=>⟨r1,_,hu,λc=>⟨by decide,λV2 _ _ => ?_⟩,λc => ?_⟩
  . have c:y06 rows ws vs=false:=by
      cases e:y06 rows ws vs with
      | false=>rfl
      | true=>unfold b0j at c; rw[if_pos e]at c; simp at c
    have:b0j rows ws vs=4:=by unfold b0j; rw[if_neg (by rw[c]; simp)]
    rw[this];exact bad V2 4 (by unfold ledE; rw[if_neg (λx=>by rw[c]at x; simp at x)]) (by decide)
  have ok:y06 rows ws vs=true:=by
   cases e:y06 rows ws vs with
   | true=>rfl
   | false=>unfold b0j at c; rw[if_neg (by rw[e]; simp)]at c; simp at c
  refine(a11 (Hi Hh l1 h) (Hi Hh l1 hw)).mono λu V3 l3 hu=>⟨_,hu,λd=>⟨by decide,λV4 _ _ => ?_⟩,λd => ?_⟩
  . have d:¬(rows.length=wts.length/\T01 rows=T01 wts):=λx=>by rw[Aq x]at d; simp at d
    exact bad V4 4 (by unfold ledE; rw[if_neg (λx=>d x.2.1)]) (by decide)
  have d:rows.length=wts.length/\T01 rows=T01 wts:=by simpa using d
  refine(c11 (Hi Hh (Gx l1 l3) h) (Hi Go.Vc.boolC.le (Gx l1 l3) hk)).mono λu V5 l5 hu=>⟨_,hu,λd2=>⟨by decide,λV6 _ _ => ?_⟩,λd2 => ?_⟩
  . have d2:¬(rows.length=K.length/\T01 rows=T01 K):=λx=>by rw[Aq x]at d2; simp at d2
    exact bad V6 4 (by unfold ledE; rw[if_neg (λx=>d2 x.2.2)]) (by decide)
  have d2:rows.length=K.length/\T01 rows=T01 K:=by simpa using d2
  have fit:f0h rows wts K:=⟨d,d2⟩;obtain⟨n,mm,hn,hm,ew,ev,hM⟩:=T0m ok hr;have p1:1<=2^n:=Bi (by omega);have p2:2^n<=2^6:=Ar (by omega) hn;have p3:1<=2^mm:=Bi (by omega);have p4:2^mm<=2^6:=Ar (by omega) hm;have lR:=hM.len;have lC:=hM.cols;have mF:Mid (d0h false rows ws vs) n mm:=B0y hM false ew ev;have sF:=Y10 hM hn hm false ew ev hS hT hT2 s1 t1;have sF':Q08 Z (d0h false rows ws vs):=λrow hr z hz=>Ah (sF row hr z hz) hZ1
  unfold y0o at h1;rw[if_pos ok]at h1;refine(K03 (Hi Hh (Gx l1 (Gx l3 l5)) h)).mono λu V7 l7 hu=>⟨_,_,hu,λb4 V8 l8 g8 b5 V9 l9 g9 b6 V10 l10 g10 b7 V11 l11 g11 b8 _ g12 => ?_⟩;have L11:=Gx l8 (Gx l9 (Gx l10 l11));have L1:=Gx l3 (Gx l5 (Gx l7 L11));have L0:=Gx l1 L1;refine(B0o (b0:=b8) (f:=⟨some (Addr.mk b4 0 none),some (Addr.mk b5 0 none),some (Addr.mk b6 0 none),some (Addr.mk b7 0 none),some (Addr.mk b8 0 none)⟩) (R:=rows.length) (C:=T01 rows) A (λi k=>if bt i k=true then 3 else 0)
   (by omega) (by omega) (by omega) (by omega) (by unfold I00; rw[if_pos rfl,h00]; rfl) (λi=>by rw[hlast]) (λi k m' V' hi hk' hle hm' => ?_)).mono λu m1 V12 l12 _ ⟨r7,hu,h7,ap,hb⟩=>⟨r7,hu,_,.inl (ldv hb),λe=>⟨_,.inl (ldv hb),by decide,λV13 _ _ => ?_⟩,λe=>⟨by decide,λV14 l14 m14 => ?_⟩⟩
  . have lx:∀ {b:Nat} {cs:Array Value},V11 b=some cs->V' b=some cs:=λh=>hle _ _ h
    refine(k1 (e:=if bt i k=true then 3 else 0) (lx (Gx l9 (Gx l10 l11) _ _ g8)) (lx (Gx l10 l11 _ _ g9)) (lx (l11 _ _ g10)) (lx g11) (Hi Hh (Gx L1 hle) h1) mF.rect (Hi Go.Vc.boolC.le (Gx L0 hle) hk) rk (Hi Hh (Gx L0 hle) hw) rw'
     (by rw[mF.len]; omega) (by rw[mF.cols]; omega) ⟨by rw[mF.len]; omega,by rw[mF.cols]; omega⟩ ⟨by rw[mF.len]; omega,by rw[mF.cols]; omega⟩ sF' zw (by omega) hZ hm').mono λu m2 V2 _ _ ⟨r,hu,hr,hm2,hx⟩=>⟨r,hu,by rw[hA]; exact hr,?_,hx⟩
    rw[hm2];show some #[Value.int i64 _]=some #[Value.int i64 (if bt i (k+1)=true then 3 else 0)]
    rw[hstep,hcell];by_cases x:bt i k=true
    . rw[x,Bool.true_or]; rfl
    have x:bt i k=false:=by simpa using x
    rw[x,Gp];by_cases y:atG false K i k=true
    . rw[y,Fe];rcases a15 _ (atG Cq.zero wts i k)with q|q<;>rw[q]<;>rfl
    have y:atG false K i k=false:=by simpa using y
    rw[y]; rfl
  . have e':bt rows.length 0=true:=by
      refine Classical.byContradiction λx => ?_;rw[if_neg x]at e; simp at e
    rw[if_pos e'];exact bad V13 3 (by rw[hE ok fit,if_pos e']) (by decide)
  have e':¬bt rows.length 0=true:=λx=>by rw[if_pos x]at e; simp at e
  have le14:(k08 m1 V12).le V14:=λbb cs g=>by
   rcases L0e g with g|⟨_,g⟩
   . exact m14 _ _ g
   exact l14 _ _ g
  have M2:Mid (matL rows.length (T01 rows) A) n mm:=⟨z0b _ (by omega),by rw[O00,lR],by rw[p06 _ (by omega),lC]⟩;have L14:=Gx L0 (Gx l12 l14);refine(A0o Zc T (Hi Hh le14 h7) M2.rect (hq.le L14) (hv.le L14) (Q0c hcA) hT hT2 c1 t1 hsz).mono λu V15 _ ⟨r8,hu,h8⟩=>⟨r8,_,hu,r8,?_,?_⟩
  . rw[hE ok fit,if_neg e'];unfold b0j;rw[if_pos];unfold y06;unfold y06 at ok;rw[p06 _ (by omega),O00]; exact ok
  unfold y0o at h8;rw[if_pos (by unfold y06; unfold y06 at ok; rw[p06 _ (by omega),O00]; exact ok)]at h8;unfold ledR;rw[if_pos (by rw[hE ok fit,if_neg e']),hF];exact h8
structure Lin (F:(Nat->Cq)->Cq):Prop where
 add:∀f g,F (λi=>f i+g i)=F f+F g
 sub:∀f g,F (λi=>f i-g i)=F f-F g
 mul:∀f c,F (λi=>f i*c)=F f*c
def stg:Nat->(Nat->Cq)->List Cq->Nat->Cq
 | 0,f,_,_=>f 0
 | m+1,f,ws,i =>
   if i<2^m then stg m (λk=>f (2*k)) (d02 ws 0) i+stg m (λk=>f (1+2*k)) (d02 ws 0) i*nth ws i
   else stg m (λk=>f (2*k)) (d02 ws 0) (i-2^m)-stg m (λk=>f (1+2*k)) (d02 ws 0) (i-2^m)*nth ws (i-2^m)
theorem g0h:∀(m:Nat) {f g:Nat->Cq} (ws:List Cq) (_:∀j,j<2^m->f j=g j) (i:Nat),stg m f ws i=stg m g ws i
 | 0,f,g,ws,h,i=>h 0 (by decide)
 | m+1,f,g,ws,h,i=>by
   have hp:2^(m+1)=2*2^m:=by rw[Ba]; omega
   have e0:=λi=>g0h m (f:=λk=>f (2*k)) (g:=λk=>g (2*k)) (d02 ws 0) (λj hj=>h _ (by omega)) i
   have e1:=λi=>g0h m (f:=λk=>f (1+2*k)) (g:=λk=>g (1+2*k)) (d02 ws 0) (λj hj=>h _ (by omega)) i
   simp only[stg,e0,e1]
theorem C0o:∀(m:Nat) {f:Nat->Cq} {zs:List Cq} (ws:List Cq) (_:zs.length=2^m) (_:∀j,j<2^m->nth zs j=f j) (i:Nat) (_:i<2^m),nth (q02 m zs ws) i=stg m f ws i
 | 0,f,zs,ws,hl,h,i,hi=>by
   have:i=0:=by simp at hi; exact hi
   subst this;exact h 0 (by decide)
 | m+1,f,zs,ws,hl,h,i,hi=>by
   have hp:2^(m+1)=2*2^m:=by rw[Ba]; omega
   have l0:(zs.length+1-0) / 2=2^m:=by omega
   have l1:(zs.length+1-1) / 2=2^m:=by omega
   have e0:=C0o m (f:=λk=>f (2*k)) (zs:=d02 zs 0) (d02 ws 0) (by rw[E03,l0]) (λj hj=>by rw[S0a (by omega),Am]; exact h _ (by omega));have e1:=C0o m (f:=λk=>f (1+2*k)) (zs:=d02 zs 1) (d02 ws 0) (by rw[E03,l1]) (λj hj=>by rw[S0a (by omega)]; exact h _ (by omega));unfold q02;rw[u0d hi];unfold stg;by_cases c:i<2^m
   . rw[if_pos c,if_pos c,e0 i c,e1 i c]
   rw[if_neg c,if_neg c,e0 _ (by omega),e1 _ (by omega)]
theorem D0o{F:(Nat->Cq)->Cq}(hF:Lin F):∀(m:Nat) (G:Nat->Nat->Cq) (ws:List Cq) (k:Nat),F (λi=>stg m (G i) ws k)=stg m (λj=>F (λi=>G i j)) ws k
 | 0,G,ws,k=>rfl
 | m+1,G,ws,k=>by
   have e0:=λk=>D0o hF m (λi k=>G i (2*k)) (d02 ws 0) k
   have e1:=λk=>D0o hF m (λi k=>G i (1+2*k)) (d02 ws 0) k
   simp only[stg];by_cases c:k<2^m
   . simp only[if_pos c];rw[hF.add,hF.mul,e0,e1]
   simp only[if_neg c];rw[hF.sub,hF.mul,e0,e1]
theorem W0m(a b c:Cq):(a+b)*c=a*c+b*c:=Hb (by simp only[F01,P01,Q01]; grind) (by simp only[G01,P01,Q01]; grind)
theorem X0m(a b c:Cq):(a-b)*c=a*c-b*c:=Hb (by simp only[F01,o02,u02]; grind) (by simp only[G01,o02,u02,o02]; grind)
theorem T0q(a b c:Cq):a*b*c=a*c*b:=Hb (by simp only[F01,G01]; grind) (by simp only[F01,G01]; grind)
theorem m13:Lin λh=>h 0+h 1 :=
 ⟨λf g=>Hb (by simp only[P01]; grind) (by simp only[Q01]; grind),λf g=>Hb (by simp only[P01,o02]; grind) (by simp only[Q01,u02]; grind),λf c=>(W0m _ _ _).symm⟩
theorem p13:Lin λh=>h 0-h 1 :=
 ⟨λf g=>Hb (by simp only[P01,o02]; grind) (by simp only[Q01,u02]; grind),λf g=>Hb (by simp only[o02]; grind) (by simp only[u02]; grind),λf c=>(X0m _ _ _).symm⟩
theorem q13(c:Cq):Lin λh=>h 0*c:=⟨λf g=>W0m _ _ _,λf g=>X0m _ _ _,λf d=>T0q _ _ _⟩
def two(f g:Nat->Cq)(i:Nat):Nat->Cq:=if i=0 then f else g
def trn(back:Bool)(m:Nat)(f:Nat->Cq)(ws:List Cq)(i:Nat):Cq:=if back=true then stg m f (M07 ws) i*K0b (2^m)else stg m f ws i
theorem i0h{back:Bool}{m:Nat}{f g:Nat->Cq}{ws:List Cq}(h:∀j,j<2^m->f j=g j)(i:Nat):trn back m f ws i=trn back m g ws i:=by
 unfold trn; rw[g0h m _ h,g0h m _ h]
theorem K0k{F:(Nat->Cq)->Cq}(hF:Lin F)(back:Bool)(m:Nat)(G:Nat->Nat->Cq)(ws:List Cq)(k:Nat):F (λi=>trn back m (G i) ws k)=trn back m (λj=>F (λi=>G i j)) ws k:=by
 unfold trn;cases back
 . exact D0o hF m G ws k
 simp only[Az];rw[hF.mul,D0o hF]
theorem F0y(back:Bool)(m:Nat)(ws:List Cq)(k:Nat):Lin λf=>trn back m f ws k :=
 ⟨λf g=>(K0k m13 back m (two f g) ws k).symm,λf g=>(K0k p13 back m (two f g) ws k).symm,λf c=>(K0k (q13 c) back m (two f f) ws k).symm⟩
theorem U0h{back:Bool}{m:Nat}{f:Nat->Cq}{zs ws:List Cq}(hl:zs.length=2^m)(hw:ws.length=2^m)(h:∀j,j<2^m->nth zs j=f j){i:Nat}(hi:i<2^m):nth (W09 back zs ws) i=trn back m f ws i:=by
 unfold W09 trn a0j Z0i;rw[hw,P08];cases back
 . exact C0o m ws hl h i hi
 simp only[Az];unfold U06;rw[u0d (by rw[Y02]; exact hi),Y02,C0o m (M07 ws) hl h i hi]
theorem S0t{m:Nat}(hm:m<=2)(f:Nat->Cq){k:Nat}(hk:k<2^m):trn true m (λj=>trn false m f (k03 m) j) (k03 m) k=f k:=by
 have ho:(k03 m).length=2^m:=by
  have:m=0\/m=1\/m=2:=by omega
  rcases this with rfl|rfl|rfl<;>rfl
 have hz:(rowL (2^m) f).length=2^m:=B00 _ _;have hf:∀j,j<2^m->nth (rowL (2^m) f) j=f j:=λj hj=>by unfold nth; rw[Cl,M04 hj]; rfl
 have e:=n10 hm hz;have hs:(W09 false (rowL (2^m) f) (k03 m)).length=2^m:=X09 ho;have g:=U0h (back:=true) (f:=λj=>trn false m f (k03 m) j) hs ho (λj hj=>U0h hz ho hf hj) hk;rw[<-g,<-hf k hk];show nth (a0j (Z0i (rowL (2^m) f) (k03 m)) (k03 m)) k=_;unfold a0j Z0i;rw[ho,P08,e]
theorem G0y{n m:Nat}(back:Bool)(A:Nat->Nat->Cq){ws:List Cq}(hw:ws.length=2^m):((matL n (2^m) A).map λrow=>W09 back row ws)=matL n (2^m) λi k=>trn back m (A i) ws k:=by
 unfold matL;rw[List.map_map];refine Ch λi _ => ?_;show W09 back (rowL (2^m) (A i)) ws=rowL (2^m) _;apply Cw;intro k;by_cases hk:k<2^m
 . rw[M04 hk,l0k (by rw[X09 hw]; exact hk)];rw[U0h (f:=A i) (B00 _ _) hw (λj hj=>by unfold nth; rw[Cl,M04 hj]; rfl) hk]
 rw[Ab (by rw[X09 hw]; omega),Ab (by rw[B00]; omega)]
theorem e11{n m:Nat}(A:Nat->Nat->Cq)(h:1<=n):T01 (matL n m A)=m:=by
 obtain⟨row,e,hl⟩:=I0a (rows:=matL n m A) (by rw[O00]; omega);rw[W06 (by omega)]at e;obtain rfl:=Option.some.inj e;rw[<-hl,B00]
theorem c15{n m i k:Nat}(A:Nat->Nat->Cq)(hi:i<n)(hk:k<m):atG Cq.zero (matL n m A) i k=A i k:=by
 unfold atG;have e1:(matL n m A).getD i []=rowL m (A i):=by rw[Cl,W06 hi]; rfl
 rw[e1,Cl,M04 hk]; rfl
theorem T0t{n m:Nat}(A:Nat->Nat->Cq)(h:1<=n):c0g Cq.zero (matL n m A)=matL m n λj i=>A i j:=by
 unfold c0g;rw[e11 A h,O00];exact b0f λj i hj hi=>c15 A hi hj
theorem pow1(n:Nat):1<=2^n:=Bi (by omega)
theorem f11{n m:Nat}(back:Bool)(A:Nat->Nat->Cq){ws vs:List Cq}(hw:ws.length=2^m)(hv:vs.length=2^n) :
 d0h back (matL (2^n) (2^m) A) ws vs=matL (2^n) (2^m) λi k=>trn back n (λi'=>trn back m (A i') ws k) vs i:=by
 unfold d0h;rw[G0y back A hw,T0t _ (pow1 n),G0y back _ hv,T0t _ (pow1 m)]
def dft(back:Bool)(n m:Nat)(A:Nat->Nat->Cq)(i k:Nat):Cq:=trn back n (λi'=>trn back m (A i') (k03 m) k) (k03 n) i
theorem z0d{m:Nat}(hm:m<=2):(k03 m).length=2^m:=by
 have:m=0\/m=1\/m=2:=by omega
 rcases this with rfl|rfl|rfl<;>rfl
theorem j0h{n m:Nat}(back:Bool)(A:Nat->Nat->Cq)(hn:n<=2)(hm:m<=2):d0h back (matL (2^n) (2^m) A) (k03 m) (k03 n)=matL (2^n) (2^m) (dft back n m A) :=
 f11 back A (z0d hm) (z0d hn)
theorem H0y{back:Bool}{n m:Nat}{A B:Nat->Nat->Cq}(h:∀i k,i<2^n->k<2^m->A i k=B i k)(i k:Nat):dft back n m A i k=dft back n m B i k:=by
 unfold dft;exact i0h (λi' hi=>i0h (λk' hk=>h i' k' hi hk) k) i
theorem I0y{m:Nat}(hm:m<=2)(f:Nat->Cq){k:Nat}(hk:k<2^m):trn false m (λj=>trn true m f (k03 m) j) (k03 m) k=f k:=by
 have ho:=z0d hm;have hz:(rowL (2^m) f).length=2^m:=B00 _ _;have hf:∀j,j<2^m->nth (rowL (2^m) f) j=f j:=λj hj=>by unfold nth; rw[Cl,M04 hj]; rfl
 have e:=q10 hm hz;have hs:(W09 true (rowL (2^m) f) (k03 m)).length=2^m:=X09 ho;have g:=U0h (back:=false) (f:=λj=>trn true m f (k03 m) j) hs ho (λj hj=>U0h hz ho hf hj) hk;rw[<-g,<-hf k hk];show nth (Z0i (a0j (rowL (2^m) f) (k03 m)) (k03 m)) k=_;unfold a0j Z0i;rw[ho,P08,e]
theorem i11{n m:Nat}(hn:n<=2)(hm:m<=2)(A:Nat->Nat->Cq){i k:Nat}(hi:i<2^n)(hk:k<2^m):dft true n m (dft false n m A) i k=A i k:=by
 unfold dft;have c:∀i',trn true m (λk'=>trn false n (λi''=>trn false m (A i'') (k03 m) k') (k03 n) i') (k03 m) k=trn false n (λi''=>A i'' k) (k03 n) i':=λi'=>by
  have:=K0k (F0y true m (k03 m) k) false n (λk' i''=>trn false m (A i'') (k03 m) k') (k03 n) i';rw[this];exact i0h (λj _=>S0t hm (A j) hk) i'
 simp only[c];exact S0t hn (λi''=>A i'' k) hi
theorem E0o{n m:Nat}(hn:n<=2)(hm:m<=2)(A:Nat->Nat->Cq){i k:Nat}(hi:i<2^n)(hk:k<2^m):dft false n m (dft true n m A) i k=A i k:=by
 unfold dft;have c:∀i',trn false m (λk'=>trn true n (λi''=>trn true m (A i'') (k03 m) k') (k03 n) i') (k03 m) k=trn true n (λi''=>A i'' k) (k03 n) i':=λi'=>by
  have:=K0k (F0y false m (k03 m) k) true n (λk' i''=>trn true m (A i'') (k03 m) k') (k03 n) i';rw[this];exact i0h (λj _=>I0y hm (A j) hk) i'
 simp only[c];exact I0y hn (λi''=>A i'' k) hi
theorem a12{back:Bool}{m S:Nat}(hm:m<=2){f:Nat->Cq}(h:∀j,j<2^m->(f j).sz<=S){k:Nat}(hk:k<2^m):(trn back m f (k03 m) k).sz<=4*(S+6)+9:=by
 have hw:=z0d hm;have hz:(rowL (2^m) f).length=2^m:=B00 _ _;have hf:∀j,j<2^m->nth (rowL (2^m) f) j=f j:=λj hj=>by unfold nth; rw[Cl,M04 hj]; rfl
 have e:=U0h (back:=back) hz hw hf hk;have hS:∀i,i<2^m->(nth (rowL (2^m) f) i).sz<=S:=λi hi=>by rw[hf i hi]; exact h i hi
 have hT:∀i,i<2^m->(nth (k03 m) i).sz<=4:=λi hi=>O0t hm i hi
 have h2:2^m<=2^2:=Ar (by omega) hm;have h3:=Ag (S+4+2) h2;rw[<-e];unfold W09;split
 . unfold a0j; rw[hw,P08];have hl:=Y02 m (rowL (2^m) f) (M07 (k03 m));have:=B0m (q02 m (rowL (2^m) f) (M07 (k03 m))) (4*(S+6)) (by rw[hl]; omega) (λi hi => ?_) k (by rw[hl]; exact hk)
   . exact this
   rw[hl]at hi;have hc:=d0o (k03 m) 4 (λi hi=>hT i (by rw[<-hw]; exact hi));rw[hw]at hc;have:=M09 m (rowL (2^m) f) (M07 (k03 m)) S 4 hz (by rw[n0e,hw]) hS hc i hi;omega
 unfold Z0i; rw[hw,P08];have:=M09 m (rowL (2^m) f) (k03 m) S 4 hz hw hS hT k hk;omega
theorem U0t{back:Bool}{n m S:Nat}(hn:n<=2)(hm:m<=2){A:Nat->Nat->Cq}(h:∀i k,i<2^n->k<2^m->(A i k).sz<=S){i k:Nat}(hi:i<2^n)(hk:k<2^m):(dft back n m A i k).sz<=16*S+165:=by
 unfold dft;have:=a12 (back:=back) (S:=4*(S+6)+9) hn (f:=λi'=>trn back m (A i') (k03 m) k) (λj hj=>a12 hm (λk' hk'=>h j k' hj hk') hk) hi;omega
def ledM(K:Nat->Nat->Bool)(M:Nat->Nat->Cq)(i k:Nat):Cq:=if K i k=true then M i k else Cq.zero
theorem Y0m{K:Nat->Nat->Bool}{M N:Nat->Nat->Cq}{i k:Nat}(h:K i k=true->M i k=N i k):ledM K M i k=ledM K N i k:=by
 unfold ledM;split
 . exact h (by assumption)
 rfl
theorem J0y{r:RatV}(h:ratI r):(ratQ r).sz<=64:=by
 obtain⟨⟨a,b⟩,⟨c,d⟩,e,f⟩:=h;have key:Rep (ratQ r) (if r.den<0 then -r.re else r.re) (if r.den<0 then -r.im else r.im) (if r.den=0 then 1 else r.den.natAbs):=by
  unfold ratQ;split
  . rename_i h0;have:¬r.den<0:=by omega
    rw[if_neg this,if_neg this];refine⟨by omega,?_,?_⟩<;>simp only[]<;>rw[Bm]<;>simp<;>grind
  by_cases hn:r.den<0
  . rw[if_pos hn,if_pos hn];have hd:(r.den:Rat)≠0:=by
     intro e0;have:=Rat.intCast_inj.1 (e0.trans Rat.intCast_zero.symm);omega
    have e:((r.den.natAbs:Nat):Rat) = -(r.den:Rat):=by
     have e1:((r.den.natAbs:Nat):Rat)=(((r.den.natAbs:Nat):Int):Rat):=rfl;have e2:((r.den.natAbs:Nat):Int) = -r.den:=by omega
     rw[e1,e2,Es9]
    refine⟨by omega,?_,?_⟩<;>simp only[e,Es9]<;>grind
  rw[if_neg hn,if_neg hn];have e:((r.den.natAbs:Nat):Rat)=(r.den:Rat):=by
   have e2:((r.den.natAbs:Nat):Int)=r.den:=by omega
   conv=>rhs; rw[<-e2]
   rfl
  exact⟨by omega,by simp only[e],by simp only[e]⟩
 refine key.sz ?_ ?_ ?_
 . exact k02 (by split<;>omega)
 . exact k02 (by split<;>omega)
 exact k02 (by split<;>omega)
theorem K0y{k:Int}(h0:0<=k)(h:k<=255):(⟨(k:Rat),0⟩:Cq).sz<=64:=by
 refine(Hc9 k).sz (k:=64) ?_ (by decide) (by decide);exact k02 (by omega)
structure Dims (n m:Nat):Prop where
 hn:n<=2
 hm:m<=2
theorem Dims.n1{n m:Nat}(_:Dims n m):1<=2^n:=Bi (by omega)
theorem Dims.m1{n m:Nat}(_:Dims n m):1<=2^m:=Bi (by omega)
theorem Dims.n4{n m:Nat}(h:Dims n m):2^n<=4:=Ah (Ar (by omega) h.hn:2^n<=2^2) (by decide)
theorem Dims.m4{n m:Nat}(h:Dims n m):2^m<=4:=Ah (Ar (by omega) h.hm:2^m<=2^2) (by decide)
theorem k0h{m:Nat}(hm:m<=2):okSz 4 (k03 m):=okSz.of λi hi=>O0t hm i (by rw[z0d hm]at hi; exact hi)
theorem L0y{n m:Nat}(h:Dims n m)(A:Nat->Nat->Cq):y06 (matL (2^n) (2^m) A) (k03 m) (k03 n)=true:=by
 unfold y06;rw[z0d h.hm,z0d h.hn,p06 A h.n1,O00,Aq rfl,Aq rfl,w0o m (by have:=h.hm; simp; omega),w0o n (by have:=h.hn; simp; omega)]; rfl
theorem j09{α:Type}{n m i k:Nat}(d:α)(A:Nat->Nat->α)(hi:i<n)(hk:k<m):atG d (matL n m A) i k=A i k:=by
 unfold atG;have e1:(matL n m A).getD i []=rowL m (A i):=by rw[Cl,W06 hi]; rfl
 rw[e1,Cl,M04 hk]; rfl
def ledA(b:Bool)(n m:Nat)(K:Nat->Nat->Bool)(W A:Nat->Nat->Cq):Nat->Nat->Cq:=dft true n m (ledM K λi k=>chg b (dft false n m A i k) (W i k))
theorem s13(b:Bool){n m:Nat}(h:Dims n m)(K:Nat->Nat->Bool)(W A:Nat->Nat->Cq) :
 ledF b (matL (2^n) (2^m) A) (k03 m) (k03 n) (matL (2^n) (2^m) W) (matL (2^n) (2^m) K)=matL (2^n) (2^m) (ledA b n m K W A):=by
 unfold ledF;rw[O00,p06 A h.n1,j0h false A h.hn h.hm];have e:matL (2^n) (2^m) (ledC b (matL (2^n) (2^m) (dft false n m A)) (matL (2^n) (2^m) W) (matL (2^n) (2^m) K))=matL (2^n) (2^m) (ledM K λi k=>chg b (dft false n m A i k) (W i k)) :=
  b0f λi k hi hk=>by unfold ledC ledM; rw[j09 _ _ hi hk,j09 _ _ hi hk,j09 _ _ hi hk]
 rw[e,j0h true _ h.hn h.hm]; rfl
theorem L0s{b:Bool}{n m:Nat}{K:Nat->Nat->Bool}{W:Nat->Nat->Cq}(hb:∀i k,i<n->k<m->K i k=true->chE b (W i k)=0):d0j b (matL n m W) (matL n m K) m n 0=false:=by
 unfold d0j;rw[List.range_zero,List.any_nil,Bool.or_false,Gv];intro i hi;have hi:i<n:=by simpa using hi
 rw[Bool.not_eq_true,Gv];intro k hk;have hk:k<m:=by simpa using hk
 unfold badC;rw[j09 _ _ hi hk,j09 _ _ hi hk];cases e:K i k with
 | false=>simp
 | true=>rw[hb i k hi hk e]; simp
theorem W0t(b:Bool){V:View}{g wg kg:x00}{w v:Sl}{n m:Nat}(h:Dims n m){K:Nat->Nat->Bool}{W A:Nat->Nat->Cq}(S Z:Nat)(hg:c01 5 numC V g.rows (matL (2^n) (2^m) A))(hq:H01 V w (k03 m))(hv:H01 V v (k03 n))
 (hw:c01 5 numC V wg.rows (matL (2^n) (2^m) W)) (hk:c01 1 Go.Vc.boolC V kg.rows (matL (2^n) (2^m) K)) (s1:1<=S) (hS:S<=2^20) (sA:∀i k,i<2^n->k<2^m->(A i k).sz<=S) (sW:∀i k,i<2^n->k<2^m->(W i k).sz<=S)
 (hb:∀i k,i<2^n->k<2^m->K i k=true->chE b (W i k)=0) (z1:1<=Z) (hZ:Z<=2^26) (sC:∀i k,i<2^n->k<2^m->(ledM K (λi k=>chg b (dft false n m A i k) (W i k)) i k).sz<=Z) :
 a00 prog c0b #[g.val,w.v,v.v,wg.val,kg.val,.func (.func (chf b)) #[] #[]] V λu V'=>∃r:x00,u = .tuple #[r.val,.int .i64 0]/\c01 5 numC V' r.rows (matL (2^n) (2^m) (ledA b n m K W A)):=by
 have p1:=h.n1; have p2:=h.n4; have p3:=h.m1; have p4:=h.m4;have ok:=L0y h A;have fit:f0h (matL (2^n) (2^m) A) (matL (2^n) (2^m) W) (matL (2^n) (2^m) K):=by
  unfold f0h;simp only[O00,p06 A p1,p06 W p1,p06 K p1,and_self]
 have hE:ledE b (matL (2^n) (2^m) A) (k03 m) (k03 n) (matL (2^n) (2^m) W) (matL (2^n) (2^m) K)=0:=by
  unfold ledE;rw[if_pos ⟨ok,fit⟩,O00,p06 A p1,L0s hb]; rfl
 refine(Q0t b S 4 (64*(64*(S+4+2)+9+4+2)+9) Z hg (z0b A p1) hq hv hw (z0b W p1) hk (z0b K p1) (Q0c sA) (k0h h.hm) (k0h h.hn) s1 (by decide) (An9 _) (by omega) (Q0c λi k hi hk=>by have:=sW i k hi hk; omega) (λi k hi hk => ?_) z1 (by omega)).mono λu V1 _ ⟨r,hu,hr⟩=>⟨r,?_,?_⟩
 . rw[O00]at hi;rw[p06 A p1]at hk;have e:ledC b (d0h false (matL (2^n) (2^m) A) (k03 m) (k03 n)) (matL (2^n) (2^m) W) (matL (2^n) (2^m) K) i k=ledM K (λi k=>chg b (dft false n m A i k) (W i k)) i k:=by
    rw[j0h false A h.hn h.hm];unfold ledC ledM; rw[j09 _ _ hi hk,j09 _ _ hi hk,j09 _ _ hi hk]
   rw[e]; exact sC i k hi hk
 . rw[hu,hE]
 unfold ledR at hr;rw[if_pos hE,s13 b h]at hr;exact hr
theorem I0i{V:View}{s:Sl}{a:Nat}(hs:x02 V s a)(ha:wn a<=2^45) :
 a00 prog d0x #[s.v] V λv V'=>v = .int .i64 (bl a:Nat):=by
 have hsl:=hs.len;have hwn:wn a=s.len:=by simp only[wn]; exact hsl.symm
 refine z0v s V _ ⟨λh => ?_,λh => ?_⟩
 . have h:(s.len:Int)=0:=by simpa using h
   have:a=0:=K07.1 (by omega);subst this; rfl
 have h:¬(s.len:Int)=0:=by simpa using h
 have ha0:a≠0:=by rintro rfl; rw[s0d]at hwn; omega
 rw[i64w (n:=(s.len:Int)-1) (by omega) (by omega)];have e:Int.toNat ((s.len:Int)-1)=wn a-1:=by omega
 refine⟨⟨by omega,by omega,hs.isSome (by omega)⟩,_,hs.get (by omega) (by omega),?_⟩;rw[e];have hw:=(L08 a).getD (wn a-1);refine(D0e hw).mono λv V' _ hv=>⟨_,hv,?_⟩;have h2:=H15 ha0;have h3:bl ((dig a).getD (wn a-1) 0)<=32:=by
  have h3:=(f0f ha0).2.2;have:=T0i h3;have:=(Bu (a:=2) (n:=bl ((dig a).getD (wn a-1) 0)-1) (m:=32) (by omega)).1 (by omega);omega
 rw[i64w (n:=32*_) (by omega) (by omega),i64w (by omega) (by omega)];congr 1;omega
