/- Part. -/
import Derived.Test.YtfdaofhjkdabbaaGreatPartC
import Derived.Deep.Slices
namespace Go.Proofs.YtfdaofhjkdabbaaGreat
open Go Go.Vc Go.Proofs
open Go.Proofs.Tryz (prog)
open Go.IntKind (i64 u64 u32 u8)
theorem l0d{V:View}{s t:Sl}{a b:Nat}(hs:e01 V s a)(ht:e01 V t b)(ha:wn a<=2^43)(hb:wn b<=2^43) :
 a00 prog u0q #[s.v,t.v] V λv V'=>∃r:Sl,v=r.v/\e01 V' r (Nat.gcd a b):=by
 refine Q0o s t V _ (λ_ x V'=>∃a' b',e01 V' x.t0 a'/\e01 V' x.t1 b'/\wn a'<=2^43/\wn b'<=2^43/\Nat.gcd a' b'=Nat.gcd a b) (λ_ x V'=>y0g V' x.t1) ⟨⟨a,b,hs,ht,ha,hb,rfl⟩,?_⟩
 rintro⟨x,y⟩ V1 l1 ⟨a',b',hx,hy,wa,wb,hg⟩
 simp only at hx hy ⊢
 have hyl:=hy.len
 refine⟨λhp => ?_,λhp => ?_⟩
 . simp only[gt_iff_lt,decide_eq_true_eq]at hp
   have hb0:b'≠0:=λe=>by rw[<-hy.len_zero]at e; omega
   refine(e06 hx hy wa hb0).mono λv V2 l2 ⟨q,r,hv,hq,hr⟩=>⟨q,r,hv,?_⟩
   have hlt:a'%b'<b':=Nat.mod_lt _ (by omega)
   have hwr:wn (a'%b')<=wn b':=J0a (Nat.le_of_lt hlt)
   refine⟨⟨b',a'%b',hy.le l2,hr,wb,by omega,?_⟩,?_⟩
   . rw[Nat.gcd_comm,<-Nat.gcd_rec,Nat.gcd_comm]; exact hg
   . rw[z0b hr,z0b hy]; exact hlt
 . simp only[gt_iff_lt,decide_eq_false_iff_not]at hp
   have hb0:b'=0:=hy.len_zero.1 (by omega)
   subst hb0
   rw[Nat.gcd_zero_right]at hg
   exact⟨x,rfl,by rw[<-hg]; exact hx⟩
theorem s02{V:View}{s:Sl}{n:Nat}(neg:Bool)(h:e01 V s n) :
 a00 prog u08 #[.bool neg,s.v] V λv V'=>∃r:WhV,v=r.val/\k04 V' r (if neg=true then -(n:Int)else n):=by
 have hl:=h.len_zero
 refine B0f neg s V _ ⟨λhn=>⟨_,rfl,?_,?_⟩,λhn=>⟨_,rfl,?_,?_⟩⟩
 . rw[if_pos hn]; simp only[gt_iff_lt,decide_eq_decide]; omega
 . rw[if_pos hn]; simpa using h
 . rw[if_neg (by simp[hn])]; symm; simp only[decide_eq_false_iff_not]; omega
 . rw[if_neg (by simp[hn])]; simpa using h
theorem p0i{V:View}{n:Int}(h0 : -9223372036854775808<=n)(h1:n<=9223372036854775807) :
 a00 prog s0o #[.int .i64 n] V λv V'=>∃r:WhV,v=r.val/\k04 V' r n:=by
 refine M0l n V _ ⟨λhn => ?_,λhn => ?_⟩
 . simp only[decide_eq_true_eq]at hn
   have e:u64.wrap (0-u64.wrap n) = -n:=by rw[u64m,u64m]; omega
   rw[e]
   refine(c05 (by omega) (by omega)).mono λv V1 _ ⟨r,hv,hr⟩=>⟨r,hv,_,rfl,by simp[hn],?_⟩
   have e2:n.natAbs=(-n).toNat:=by omega
   rw[e2]; exact hr
 . simp only[decide_eq_false_iff_not]at hn
   rw[u64w (by omega) (by omega)]
   refine(c05 (by omega) (by omega)).mono λv V1 _ ⟨r,hv,hr⟩=>⟨r,hv,_,rfl,by simp[hn],?_⟩
   have e2:n.natAbs=n.toNat:=by omega
   rw[e2]; exact hr
theorem E03{V:View}{x:WhV}{a:Int}(h:k04 V x a) :
 a00 prog s0h #[x.val] V λv V'=>∃r:WhV,v=r.val/\k04 V' r (-a):=by
 refine C0f x V _ ((s02 (!x.neg) h.2).mono λv V1 _ ⟨r,hv,hr⟩=>⟨r,hv,r,rfl,?_⟩)
 have e:(if(!x.neg)=true then -(a.natAbs:Int)else(a.natAbs:Int)) = -a:=by
  rw[h.1]; simp only[Bool.not_eq_true',decide_eq_false_iff_not]; split<;>omega
 rw[e]at hr; exact hr
theorem b04{V:View}{x y:WhV}{a b:Int}(hx:k04 V x a)(hy:k04 V y b)(ha:wn a.natAbs<=2^43)(hb:wn b.natAbs<=2^43) :
 a00 prog e0j #[x.val,y.val] V λv V'=>∃r:WhV,v=r.val/\k04 V' r (a+b):=by
 have h1:=hx.1
 have h2:=hy.1
 refine B0h x y V _ ⟨λhs => ?_,λhs => ?_⟩
 . refine(q0k hx.2 hy.2 (by omega) (by omega)).mono λv V1 l1 ⟨r,hv,hr⟩=>⟨r,hv,?_⟩
   refine(s02 x.neg hr).mono λv V2 _ ⟨w,hv,hw⟩=>⟨w,hv,w,rfl,?_⟩
   have e:(if x.neg=true then -((a.natAbs+b.natAbs:Nat):Int)else((a.natAbs+b.natAbs:Nat):Int))=a+b:=by
    rw[h1,h2]at hs; rw[h1]
    by_cases p:a<0<;>by_cases q:b<0<;>simp[p,q]at hs ⊢<;>omega
   rw[e]at hw; exact hw
 . refine(c06 hx.2 hy.2 (by omega)).mono λv V1 l1 hv=>⟨_,hv,λhc => ?_,λhc => ?_⟩
   . have hc:b.natAbs<=a.natAbs:=by
       rcases Nat.lt_or_ge a.natAbs b.natAbs with h|h
       . rw[if_pos h]at hc; simp at hc
       . exact h
     refine(k0d (hx.2.le l1) (hy.2.le l1) (by omega) hc).mono λv V2 l2 ⟨r,hv,hr⟩=>⟨r,hv,?_⟩
     refine(s02 x.neg hr).mono λv V3 _ ⟨w,hv,hw⟩=>⟨w,hv,w,rfl,?_⟩
     have e:(if x.neg=true then -((a.natAbs-b.natAbs:Nat):Int)else((a.natAbs-b.natAbs:Nat):Int))=a+b:=by
      rw[h1,h2]at hs; rw[h1]
      by_cases p:a<0<;>by_cases q:b<0<;>simp[p,q]at hs ⊢<;>omega
     rw[e]at hw; exact hw
   . have hc:a.natAbs<=b.natAbs:=by
       rcases Nat.lt_or_ge b.natAbs a.natAbs with h|h
       . rw[if_neg (by omega),if_neg (by omega)]at hc; simp at hc
       . exact h
     refine(k0d (hy.2.le l1) (hx.2.le l1) (by omega) hc).mono λv V2 l2 ⟨r,hv,hr⟩=>⟨r,hv,?_⟩
     refine(s02 y.neg hr).mono λv V3 _ ⟨w,hv,hw⟩=>⟨w,hv,w,rfl,?_⟩
     have e:(if y.neg=true then -((b.natAbs-a.natAbs:Nat):Int)else((b.natAbs-a.natAbs:Nat):Int))=a+b:=by
      rw[h1,h2]at hs; rw[h2]
      by_cases p:a<0<;>by_cases q:b<0<;>simp[p,q]at hs ⊢<;>omega
     rw[e]at hw; exact hw
theorem T0t(x y a b:Int)(hx:x=if a<0 then -1 else 1)(hy:y=if b<0 then -1 else 1):a*b=x*y*(a.natAbs*b.natAbs:Nat):=by
 have ha:a=x*a.natAbs:=by rw[hx]; split<;>omega
 have hb:b=y*b.natAbs:=by rw[hy]; split<;>omega
 rw[Int.natCast_mul]
 conv=>lhs; rw[ha,hb]
 grind
theorem F03{V:View}{x y:WhV}{a b:Int}(hx:k04 V x a)(hy:k04 V y b)(ha:wn a.natAbs<=2^43)(hb:wn b.natAbs<=2^43) :
 a00 prog t0h #[x.val,y.val] V λv V'=>∃r:WhV,v=r.val/\k04 V' r (a*b):=by
 refine D0f x y V _ ((d06 hx.2 hy.2 (by omega) (by omega)).mono λv V1 l1 ⟨r,hv,hr⟩=>⟨r,hv,?_⟩)
 refine(s02 (!(x.neg==y.neg)) hr).mono λv V2 _ ⟨w,hv,hw⟩=>⟨w,hv,w,rfl,?_⟩
 have e:(if(!(x.neg==y.neg))=true then -((a.natAbs*b.natAbs:Nat):Int)else((a.natAbs*b.natAbs:Nat):Int))=a*b:=by
  rw[T0t _ _ a b rfl rfl,hx.1,hy.1]
  by_cases p:a<0<;>by_cases q:b<0<;>simp[p,q]
 rw[e]at hw; exact hw
theorem t01{V:View}{x:WhV}{s:Sl}{a:Int}{n:Nat}(hx:k04 V x a)(hs:e01 V s n)(ha:wn a.natAbs<=2^43)(hb:wn n<=2^43) :
 a00 prog w0f #[x.val,s.v] V λv V'=>∃r:WhV,v=r.val/\k04 V' r (a*n):=by
 refine n0e x s V _ ((d06 hx.2 hs (by omega) (by omega)).mono λv V1 l1 ⟨r,hv,hr⟩=>⟨r,hv,?_⟩)
 refine(s02 x.neg hr).mono λv V2 _ ⟨w,hv,hw⟩=>⟨w,hv,w,rfl,?_⟩
 have e:(if x.neg=true then -((a.natAbs*n:Nat):Int)else((a.natAbs*n:Nat):Int))=a*n:=by
  conv=>rhs; rw[hx.val]
  rw[Int.natCast_mul]; split
  . rw[Int.neg_mul]
  . rfl
 rw[e]at hw; exact hw
theorem L05{V:View}{x y:WhV}{a b:Int}(hx:k04 V x a)(hy:k04 V y b)(ha:wn a.natAbs<=2^43)(hb:wn b.natAbs<=2^43) :
 a00 prog t0l #[x.val,y.val] V λv _=>v = .int .i64 (cmpZ a b):=by
 refine t0j x y V _ ((E03 hy).mono λv V1 l1 ⟨r,hv,hr⟩=>⟨r,hv,?_⟩)
 refine(b04 (hx.le l1) hr ha (by rw[Int.natAbs_neg]; exact hb)).mono λv V2 l2 ⟨w,hv,hw⟩=>⟨w,hv,λh => ?_,λh => ?_⟩
 . have:a + -b<0:=by have:=hw.1; rw[h]at this; simpa using this
   rw[P0q (by omega)]
 . have h1:¬a + -b<0:=by have:=hw.1; rw[h]at this; simpa using this
   have h2:=hw.2.len_zero
   by_cases e:a=b
   . have:w.mag.len=0:=h2.2 (by omega)
     rw[Q0q e,this]; rfl
   . have:w.mag.len≠0:=λh=>by have:=h2.1 h; omega
     rw[S0q (by omega)]
     congr 1; split<;>omega
theorem S03{V:View}{x y:WhV}{s:Sl}{z:Cq}{a b:Int}{d:Nat}(hx:k04 V x a)(hy:k04 V y b)(hs:e01 V s d)(hz:Rep z a b d)(ha:wn a.natAbs<=2^43)(hb:wn b.natAbs<=2^43)(hd:wn d<=2^43) :
 a00 prog y0o #[x.val,y.val,s.v] V λv V'=>∃r:NumV,v=r.val/\N00 V' r z:=by
 obtain⟨e1,e2,e3⟩:=hz.eqs
 have hp:=T0h a b hz.pos
 have d1:=A0b a b d
 have d2:=B0e a b d
 have d3:=T0j a b d
 refine N0l x y s V _ ((l0d hx.2 hy.2 ha hb).mono λv V1 l1 ⟨r1,hv,h1⟩=>⟨r1,hv,?_⟩)
 have hw1:wn (Nat.gcd a.natAbs b.natAbs)<=2^43:=by
  rcases Nat.eq_zero_or_pos a.natAbs with h|h
  . rw[h,Nat.gcd_zero_left]; exact hb
  . exact Nat.le_trans (J0a (Nat.le_of_dvd h (Nat.gcd_dvd_left _ _))) ha
 refine(l0d h1 (hs.le l1) hw1 hd).mono λv V2 l2 ⟨r2,hv,h2⟩=>⟨r2,hv,?_⟩
 have hg:Nat.gcd (Nat.gcd a.natAbs b.natAbs) d=gcd3 a b d:=rfl
 rw[hg]at h2
 refine(F09 h2).mono λv V3 l3 hv=>⟨_,hv,λhn => ?_,λhn => ?_⟩
 . have l13:=View.le_trans l1 (View.le_trans l2 l3)
   refine(e06 (hx.2.le l13) (h2.le l3) ha (by omega)).mono λv V4 l4 ⟨q1,m1,hv,hq1,_⟩=>⟨q1,m1,hv,?_⟩
   refine(e06 (hy.2.le (View.le_trans l13 l4)) (h2.le (View.le_trans l3 l4)) hb (by omega)).mono λv V5 l5 ⟨q2,m2,hv,hq2,_⟩=>⟨q2,m2,hv,?_⟩
   have l45:=View.le_trans l4 l5
   refine(e06 (hs.le (View.le_trans l13 l45)) (h2.le (View.le_trans l3 l45)) hd (by omega)).mono λv V6 l6 ⟨q3,m3,hv,hq3,_⟩=>⟨q3,m3,hv,?_⟩
   have f1:k04 V6 (WhV.mk x.neg q1) z.A:=⟨by rw[e1,K0a d1 hp]; exact hx.1,by rw[e1,I05 d1]; exact hq1.le (View.le_trans l5 l6)⟩
   have f2:k04 V6 (WhV.mk y.neg q2) z.B:=⟨by rw[e2,K0a d2 hp]; exact hy.1,by rw[e2,I05 d2]; exact hq2.le l6⟩
   refine(F09 hq3).mono λv V7 l7 hv=>⟨_,hv,λh=>⟨_,rfl,f1.le l7,f2.le l7,?_⟩,λh=>⟨_,rfl,f1.le l7,f2.le l7,?_⟩⟩
   . simp only[decide_eq_true_eq]at h
     rw[e3,if_pos h]; exact e01.zero V7
   . simp only[decide_eq_false_iff_not]at h
     rw[e3,if_neg h]; exact hq3.le l7
 . simp only[Bool.not_eq_false',decide_eq_true_eq]at hn
   rw[hn]at e1 e2 e3
   simp only[Int.natCast_one,Int.ediv_one]at e1 e2
   rw[Nat.div_one]at e3
   have l13:=View.le_trans l1 (View.le_trans l2 l3)
   refine(F09 (hs.le l13)).mono λv V7 l7 hv=>⟨_,hv,λh=>⟨_,rfl,?_,?_,?_⟩,λh=>⟨_,rfl,?_,?_,?_⟩⟩
   . rw[e1]; exact hx.le (View.le_trans l13 l7)
   . rw[e2]; exact hy.le (View.le_trans l13 l7)
   . simp only[decide_eq_true_eq]at h
     rw[e3,if_pos h]; exact e01.zero V7
   . rw[e1]; exact hx.le (View.le_trans l13 l7)
   . rw[e2]; exact hy.le (View.le_trans l13 l7)
   . simp only[decide_eq_false_iff_not]at h
     rw[e3,if_neg h]; exact hs.le (View.le_trans l13 l7)
theorem i01{V:View}{x:NumV}{z:Cq}(h:N00 V x z):a00 prog o0q #[x.val] V λv V'=>∃r:Sl,v=r.v/\e01 V' r z.D:=by
 have hu:=h.under
 have hl:=hu.len_zero
 have hD:=z.D_pos
 refine S0o x V _ ⟨λh0 => ?_,λh0 => ?_⟩
 . have h0:x.under.len=0:=by have:(x.under.len:Int)=0:=(by simpa using h0); omega
   intro b V1 l1 _ hb
   have hz:=hl.1 h0
   have h1:z.D=1:=by split at hz<;>omega
   refine⟨_,rfl,?_⟩
   rw[h1]
   have:dig 1=[1]:=by rw[W04 (by omega)]; simp[Q03]
   unfold e01; rw[this]
   exact l02.of_block (by rw[hb]; rfl) rfl (Nat.le_refl _) (by intro d hd; simp at hd; omega)
 . have h0:x.under.len≠0:=by have:¬(x.under.len:Int)=0:=(by simpa using h0); omega
   refine⟨_,rfl,?_⟩
   have hz:¬(if z.D=1 then 0 else z.D)=0:=λe=>h0 (hl.2 e)
   split at hz
   . omega
   . rename_i h1; rw[if_neg h1]at hu; exact hu
theorem S02{V:View}{n:Int}(h0 : -9223372036854775808<=n)(h1:n<=9223372036854775807) :
 a00 prog Y0i #[.int .i64 n] V λv V'=>∃r:NumV,v=r.val/\N00 V' r ⟨(n:Rat),0⟩:=by
 obtain⟨e1,e2,e3⟩:=s0d n
 refine T0o n V _ ((p0i h0 h1).mono λv V1 _ ⟨r,hv,hr⟩=>⟨r,hv,_,rfl,by rw[e1]; exact hr,by rw[e2]; exact k04.zero _,by rw[e3]; exact e01.zero _⟩)
theorem wn64{n:Nat}(h:n<=18446744073709551615):wn n<=2^43:=by
 have:wn n<=2:=H04 (by omega)
 omega
theorem Cq.wA{z:Cq}(h:z.sz<=2^40):wn z.A.natAbs<=2^35:=B0b (by have:=z.szA; omega)
theorem Cq.wB{z:Cq}(h:z.sz<=2^40):wn z.B.natAbs<=2^35:=B0b (by have:=z.szB; omega)
theorem Cq.wD{z:Cq}(h:z.sz<=2^40):wn z.D<=2^35:=B0b (by have:=z.szD; omega)
theorem X04{a b:Int}{k:Nat}(ha:wn a.natAbs<=k)(hb:wn b.natAbs<=k):wn (a*b).natAbs<=2*k:=by
 rw[Int.natAbs_mul]; have:=q09 a.natAbs b.natAbs; omega
theorem O0e{a b:Int}{k:Nat}(ha:wn a.natAbs<=k)(hb:wn b.natAbs<=k):wn (a+b).natAbs<=k+1:=by
 have:=J0a (Int.natAbs_add_le a b); have:=H0q a.natAbs b.natAbs; omega
theorem M0v{a:Int}{k:Nat}(ha:wn a.natAbs<=k):wn (-a).natAbs<=k:=by rw[Int.natAbs_neg]; exact ha
theorem J04{V:View}{x y:NumV}{z w:Cq}(hx:N00 V x z)(hy:N00 V y w)(hz:z.sz<=2^40)(hw:w.sz<=2^40) :
 a00 prog n0q #[x.val,y.val] V λv V'=>∃r:NumV,v=r.val/\N00 V' r (z+w):=by
 have zA:=Cq.wA hz; have zB:=Cq.wB hz; have zD:=Cq.wD hz
 have wA:=Cq.wA hw; have wB:=Cq.wB hw; have wD:=Cq.wD hw
 have zD':wn (z.D:Int).natAbs<=2^35:=zD
 have wD':wn (w.D:Int).natAbs<=2^35:=wD
 have s1:=X04 zA wD'; have s2:=X04 wA zD'; have s3:=X04 zB wD'; have s4:=X04 wB zD'
 have s5:=O0e s1 s2; have s6:=O0e s3 s4
 have s7:=q09 z.D w.D
 refine U0o x y V _ ((i01 hx).mono λv V1 l1 ⟨r1,hv,h1⟩=>⟨r1,hv,?_⟩)
 replace hx:=hx.le l1; replace hy:=hy.le l1
 refine(i01 hy).mono λv V2 l2 ⟨r2,hv,h2⟩=>⟨r2,hv,?_⟩
 replace hx:=hx.le l2; replace hy:=hy.le l2; replace h1:=h1.le l2
 refine(t01 hx.re h2 (by omega) (by omega)).mono λv V3 l3 ⟨r3,hv,h3⟩=>⟨r3,hv,?_⟩
 replace hx:=hx.le l3; replace hy:=hy.le l3; replace h1:=h1.le l3; replace h2:=h2.le l3
 refine(t01 hy.re h1 (by omega) (by omega)).mono λv V4 l4 ⟨r4,hv,h4⟩=>⟨r4,hv,?_⟩
 replace hx:=hx.le l4; replace hy:=hy.le l4; replace h1:=h1.le l4; replace h2:=h2.le l4; replace h3:=h3.le l4
 refine(b04 h3 h4 (by omega) (by omega)).mono λv V5 l5 ⟨r5,hv,h5⟩=>⟨r5,hv,?_⟩
 replace hx:=hx.le l5; replace hy:=hy.le l5; replace h1:=h1.le l5; replace h2:=h2.le l5
 refine(t01 hx.im h2 (by omega) (by omega)).mono λv V6 l6 ⟨r6,hv,h6⟩=>⟨r6,hv,?_⟩
 replace hy:=hy.le l6; replace h1:=h1.le l6; replace h2:=h2.le l6; replace h5:=h5.le l6
 refine(t01 hy.im h1 (by omega) (by omega)).mono λv V7 l7 ⟨r7,hv,h7⟩=>⟨r7,hv,?_⟩
 replace h1:=h1.le l7; replace h2:=h2.le l7; replace h5:=h5.le l7; replace h6:=h6.le l7
 refine(b04 h6 h7 (by omega) (by omega)).mono λv V8 l8 ⟨r8,hv,h8⟩=>⟨r8,hv,?_⟩
 replace h1:=h1.le l8; replace h2:=h2.le l8; replace h5:=h5.le l8
 refine(d06 h1 h2 (by omega) (by omega)).mono λv V9 l9 ⟨r9,hv,h9⟩=>⟨r9,hv,?_⟩
 exact(S03 (h5.le l9) (h8.le l9) h9 (z.canon.rep.add w.canon.rep) (by omega) (by omega) (by omega)).mono λv V10 _ ⟨r,hv,hr⟩=>⟨r,hv,r,rfl,hr⟩
theorem m0d{V:View}{x:NumV}{z:Cq}(hx:N00 V x z):a00 prog p0q #[x.val] V λv V'=>∃r:NumV,v=r.val/\N00 V' r (-z):=by
 obtain⟨e1,e2,e3⟩:=z.neg_eqs
 refine W0o x V _ ((E03 hx.re).mono λv V1 l1 ⟨r1,hv,h1⟩=>⟨r1,hv,?_⟩)
 exact(E03 (hx.im.le l1)).mono λv V2 l2 ⟨r2,hv,h2⟩=>⟨r2,hv,_,rfl,by rw[e1]; exact h1.le l2,by rw[e2]; exact h2,by rw[e3]; exact hx.under.le (View.le_trans l1 l2)⟩
theorem q0i{V:View}{x:NumV}{z:Cq}(hx:N00 V x z):a00 prog H0o #[x.val] V λv V'=>∃r:NumV,v=r.val/\N00 V' r z.conj:=by
 obtain⟨e1,e2,e3⟩:=z.conj_eqs
 exact Q0l x V _ ((E03 hx.im).mono λv V1 l1 ⟨r1,hv,h1⟩=>⟨r1,hv,_,rfl,by rw[e1]; exact hx.re.le l1,by rw[e2]; exact h1,by rw[e3]; exact hx.under.le l1⟩)
theorem f06{V:View}{x y:NumV}{z w:Cq}(hx:N00 V x z)(hy:N00 V y w)(hz:z.sz<=2^40)(hw:w.sz<=2^40) :
 a00 prog k0e #[x.val,y.val] V λv V'=>∃r:NumV,v=r.val/\N00 V' r (z-w):=by
 refine X0o x y V _ ((m0d hy).mono λv V1 l1 ⟨r1,hv,h1⟩=>⟨r1,hv,?_⟩)
 rw[U0k]
 exact(J04 (hx.le l1) h1 hz (by rw[o0f]; exact hw)).mono λv V2 _ ⟨r,hv,hr⟩=>⟨r,hv,r,rfl,hr⟩
theorem p03{V:View}{x y:NumV}{z w:Cq}(hx:N00 V x z)(hy:N00 V y w)(hz:z.sz<=2^40)(hw:w.sz<=2^40) :
 a00 prog j0e #[x.val,y.val] V λv V'=>∃r:NumV,v=r.val/\N00 V' r (z*w):=by
 have zA:=Cq.wA hz; have zB:=Cq.wB hz; have zD:=Cq.wD hz
 have wA:=Cq.wA hw; have wB:=Cq.wB hw; have wD:=Cq.wD hw
 have s1:=X04 zA wA; have s2:=X04 zB wB; have s2':=M0v s2; have s3:=X04 zA wB; have s4:=X04 zB wA
 have s5:=O0e s1 s2'; have s6:=O0e s3 s4
 have s7:=q09 z.D w.D
 refine Y0o x y V _ ((F03 hx.re hy.re (by omega) (by omega)).mono λv V1 l1 ⟨r1,hv,h1⟩=>⟨r1,hv,?_⟩)
 replace hx:=hx.le l1; replace hy:=hy.le l1
 refine(F03 hx.im hy.im (by omega) (by omega)).mono λv V2 l2 ⟨r2,hv,h2⟩=>⟨r2,hv,?_⟩
 replace hx:=hx.le l2; replace hy:=hy.le l2; replace h1:=h1.le l2
 refine(E03 h2).mono λv V3 l3 ⟨r3,hv,h3⟩=>⟨r3,hv,?_⟩
 replace hx:=hx.le l3; replace hy:=hy.le l3; replace h1:=h1.le l3
 refine(b04 h1 h3 (by omega) (by omega)).mono λv V4 l4 ⟨r4,hv,h4⟩=>⟨r4,hv,?_⟩
 replace hx:=hx.le l4; replace hy:=hy.le l4
 refine(F03 hx.re hy.im (by omega) (by omega)).mono λv V5 l5 ⟨r5,hv,h5⟩=>⟨r5,hv,?_⟩
 replace hx:=hx.le l5; replace hy:=hy.le l5; replace h4:=h4.le l5
 refine(F03 hx.im hy.re (by omega) (by omega)).mono λv V6 l6 ⟨r6,hv,h6⟩=>⟨r6,hv,?_⟩
 replace hx:=hx.le l6; replace hy:=hy.le l6; replace h4:=h4.le l6; replace h5:=h5.le l6
 refine(b04 h5 h6 (by omega) (by omega)).mono λv V7 l7 ⟨r7,hv,h7⟩=>⟨r7,hv,?_⟩
 replace hx:=hx.le l7; replace hy:=hy.le l7; replace h4:=h4.le l7
 refine(i01 hx).mono λv V8 l8 ⟨r8,hv,h8⟩=>⟨r8,hv,?_⟩
 replace hy:=hy.le l8; replace h4:=h4.le l8; replace h7:=h7.le l8
 refine(i01 hy).mono λv V9 l9 ⟨r9,hv,h9⟩=>⟨r9,hv,?_⟩
 replace h4:=h4.le l9; replace h7:=h7.le l9; replace h8:=h8.le l9
 refine(d06 h8 h9 (by omega) (by omega)).mono λv V10 l10 ⟨r10,hv,h10⟩=>⟨r10,hv,?_⟩
 refine(S03 (h4.le l10) (h7.le l10) h10 ?_ (by omega) (by omega) (by omega)).mono λv V11 _ ⟨r,hv,hr⟩=>⟨r,hv,r,rfl,hr⟩
 rw[<-Int.sub_eq_add_neg]; exact z.canon.rep.mul w.canon.rep
theorem L0b{V:View}{x y:NumV}{z w:Cq}(hx:N00 V x z)(hy:N00 V y w)(hz:z.sz<=2^40)(hw:w.sz<=2^40) :
 a00 prog t0o #[x.val,y.val] V λv _=>v = .bool (decide (z=w)):=by
 have zA:=Cq.wA hz; have zB:=Cq.wB hz; have zD:=Cq.wD hz
 have wA:=Cq.wA hw; have wB:=Cq.wB hw; have wD:=Cq.wD hw
 refine O0l x y V _ ((L05 hx.re hy.re (by omega) (by omega)).mono λv V1 l1 hv=>⟨_,hv,λh1 => ?_,λh1=>⟨(λh=>by cases h),λ_ => ?_⟩⟩)
 . have h1:z.A=w.A:=C0b.1 (by simpa using h1)
   refine(L05 (hx.im.le l1) (hy.im.le l1) (by omega) (by omega)).mono λv V2 l2 hv=>⟨_,hv,λh2 => ?_,λh2 => ?_⟩
   . have h2:z.B=w.B:=C0b.1 (by simpa using h2)
     refine(c06 (hx.under.le (View.le_trans l1 l2)) (hy.under.le (View.le_trans l1 l2)) ?_).mono λv V3 l3 hv=>⟨_,hv,?_⟩
     . split
       . rw[I07]; omega
       . omega
     . have hD1:=z.D_pos
       have hD2:=w.D_pos
       congr 1
       by_cases e:z.D=w.D
       . have:z=w:=n0u h1 h2 e
         subst this; simp
       . have:z≠w:=by rintro rfl; exact e rfl
         simp only[this,decide_false]
         have h3:(if z.D=1 then 0 else z.D)≠(if w.D=1 then 0 else w.D):=by split<;>split<;>omega
         rw[if_neg h3]
         by_cases h:(if z.D=1 then 0 else z.D)<(if w.D=1 then 0 else w.D)
         . rw[if_pos h]; rfl
         . rw[if_neg h]; rfl
   . have h2:¬z.B=w.B:=λe=>by rw[C0b.2 e]at h2; simp at h2
     have:z≠w:=by rintro rfl; exact h2 rfl
     simp[this]
 . have h1:¬z.A=w.A:=λe=>by rw[C0b.2 e]at h1; simp at h1
   have:z≠w:=by rintro rfl; exact h1 rfl
   simp[this]
theorem Q01{V:View}{x:NumV}{z:Cq}(hx:N00 V x z):a00 prog q0o #[x.val] V λv _=>v = .bool (decide (z.im=0)):=by
 refine P0l x V _ ?_
 have h1:=hx.im.2.len_zero
 have h2:=Cq.B_zero (z:=z)
 congr 1
 by_cases e:z.im=0
 . have:x.im.mag.len=0:=h1.2 (by rw[h2.2 e]; rfl)
   simp[e,this]
 . have:x.im.mag.len≠0:=λh=>e (h2.1 (by have:=h1.1 h; omega))
   simp only[e,decide_false,beq_eq_false_iff_ne,ne_eq]; omega
theorem g06{V:View}{x y:NumV}{z w:Cq}(hx:N00 V x z)(hy:N00 V y w)(hz:z.sz<=2^40)(hw:w.sz<=2^40) :
 a00 prog l0q #[x.val,y.val] V λv _=>v = .int .i64 (z.cmp w):=by
 have zA:=Cq.wA hz; have zB:=Cq.wB hz; have zD:=Cq.wD hz
 have wA:=Cq.wA hw; have wB:=Cq.wB hw; have wD:=Cq.wD hw
 have zD':wn (z.D:Int).natAbs<=2^35:=zD
 have wD':wn (w.D:Int).natAbs<=2^35:=wD
 have s1:=X04 zA wD'; have s2:=X04 wA zD'; have s3:=X04 zB wD'; have s4:=X04 wB zD'
 have c1:cmpZ (z.A*w.D) (w.A*z.D)=cmpR z.re w.re:=by rw[A0u z.D_pos w.D_pos,<-z.canon.rep.re,<-w.canon.rep.re]
 have c2:cmpZ (z.B*w.D) (w.B*z.D)=cmpR z.im w.im:=by rw[A0u z.D_pos w.D_pos,<-z.canon.rep.im,<-w.canon.rep.im]
 refine Z0o x y V _ ((i01 hy).mono λv V1 l1 ⟨r1,hv,h1⟩=>⟨r1,hv,?_⟩)
 replace hx:=hx.le l1; replace hy:=hy.le l1
 refine(t01 hx.re h1 (by omega) (by omega)).mono λv V2 l2 ⟨r2,hv,h2⟩=>⟨r2,hv,?_⟩
 replace hx:=hx.le l2; replace hy:=hy.le l2
 refine(i01 hx).mono λv V3 l3 ⟨r3,hv,h3⟩=>⟨r3,hv,?_⟩
 replace hx:=hx.le l3; replace hy:=hy.le l3; replace h2:=h2.le l3
 refine(t01 hy.re h3 (by omega) (by omega)).mono λv V4 l4 ⟨r4,hv,h4⟩=>⟨r4,hv,?_⟩
 replace hx:=hx.le l4; replace hy:=hy.le l4; replace h2:=h2.le l4
 refine(L05 h2 h4 (by omega) (by omega)).mono λv V5 l5 hv=>⟨_,hv,λhn => ?_,λhn => ?_⟩
 . rw[c1]at hn ⊢
   have hn:cmpR z.re w.re≠0:=by simpa using hn
   unfold Cq.cmp; rw[if_pos hn]
 . rw[c1]at hn
   have hn:¬cmpR z.re w.re≠0:=by simpa using hn
   replace hx:=hx.le l5; replace hy:=hy.le l5
   refine(i01 hy).mono λv V6 l6 ⟨r6,hv,h6⟩=>⟨r6,hv,?_⟩
   replace hx:=hx.le l6; replace hy:=hy.le l6
   refine(t01 hx.im h6 (by omega) (by omega)).mono λv V7 l7 ⟨r7,hv,h7⟩=>⟨r7,hv,?_⟩
   replace hx:=hx.le l7; replace hy:=hy.le l7
   refine(i01 hx).mono λv V8 l8 ⟨r8,hv,h8⟩=>⟨r8,hv,?_⟩
   replace hx:=hx.le l8; replace hy:=hy.le l8; replace h7:=h7.le l8
   refine(t01 hy.im h8 (by omega) (by omega)).mono λv V9 l9 ⟨r9,hv,h9⟩=>⟨r9,hv,?_⟩
   replace h7:=h7.le l9
   refine(L05 h7 h9 (by omega) (by omega)).mono λv V10 l10 hv=>⟨_,hv,?_⟩
   unfold Cq.cmp; rw[if_neg hn,c2]
theorem K0r{V:View}{b:Nat}{l:List Value}(h:V b=some l.toArray):V.has (some (Addr.mk b 0 none)) l:=by
 intro j v hj
 rw[M06 h]; simpa using hj
end Go.Proofs.YtfdaofhjkdabbaaGreat
namespace Go.Proofs.YtfdaofhjkdabbaaGreat
open Go Go.Vc Go.Proofs Go.ChangeShapes Go.RowKit
section
variable {H:Type} {enc:TypeId×Value->H} {P:Program} {w:World} {base:Nat} {spare:Nat->Bool} {held:Bool}
end
theorem a00.fits{P:Program}{f:FuncId}{args:Array Value}{r:Value}{V:View}(h:a00 P f args V λv _=>v=r){w:World}(hw:V.In w) :
 Calls P f args w λe w'=>e = .returned r/\Below w.heap.size w w' :=
 (h w hw).mono λ_ _ ⟨_,_,he,_,_,_,hb,hr⟩=>⟨by rw[he,hr],hb⟩
theorem M0b{H:Type}{enc:TypeId×Value->H}{P:Program}(hl:laidOutB P=true){W W':World}(hb:Below W.heap.size W W') :
 ∀ {ts:List TypeId} {vs:List Value} {ds:List (DataW H)} {ps:List MemPlace},(∀t∈ts,P.readableRec t=true/\t<P.types.size)->(∀p∈ps,p.block<W.heap.size) ->
 DataW.TrodAll enc P W 0 (λ_=>true) true ts vs ds ps->DataW.TrodAll enc P W' 0 (λb=>decide (b<W.heap.size)) true ts vs ds ps
 | [],[],[],_,_,_,h=>h
 | t::ts,v::vs,d::ds,ps,ht,hlt,⟨p,q,h1,h2,e⟩=>by
   subst e
   exact⟨p,q,Below.trod hl (ht t (by simp)).1 (ht t (by simp)).2 h1 hb (λx hx=>hlt x (by simp[hx])),
    M0b hl hb (λt' ht'=>ht t' (by simp[ht'])) (λx hx=>hlt x (by simp[hx])) h2,rfl⟩
 | [],[],_::_,_,_,_,h=>h.elim
 | [],_::_,_,_,_,_,h=>h.elim
 | _::_,[],_,_,_,_,h=>h.elim
 | _::_,_::_,[],_,_,_,h=>h.elim
theorem u0k{H:Type}{enc:TypeId×Value->H}{P:Program}{f:Func}{s:ChangeSpec}{apart fresh handsOn:Bool}{W W':World}{args:Array Value}{v:Value}{ds:List (DataW H)}{before:List MemPlace}
 (hl:laidOutB P=true) (ht:∀t∈f.params.toList,P.readableRec t=true/\t<P.types.size)
 (hW:DataW.Whole enc P f.params.toList s.vars apart W args.toList ds [] before) (hA:DataW.TrodAll enc P W 0 (λ_=>true) true f.params.toList args.toList ds before)
 (hres:∀(b:Nat) (sp:Nat->Bool) (hd:Bool),DataW.TrodAll enc P W' b sp hd f.resultTypes.toList (v.resultList f.resultTypes.size) (s.fn H (ds++[])).results [])
 (hargs:(s.fn H (ds++[])).args=ds) (hvars:∀sp:Nat->Bool,DataW.TrodVars enc P W' sp s.vars (s.fn H (ds++[])).vars []) (hb:Below W.heap.size W W'):s.post enc P f apart fresh handsOn false W args v W':=by
 refine⟨ds,[],before,[],before,[],hW,hres _ _ _,?_,hvars _,World.keptBut_mono (λp hp=>⟨hp,.inr (.inl hp)⟩) (hb.frame (·∈before)),λh=>Bool.noConfusion h⟩
 rw[hargs]
 exact M0b hl hb ht (λp hp=>hW.lt p hp) hA
inductive FK where
 | int (k:IntKind)
 | bool
def FK.ok:FK->Value->Prop
 | .int k,v=>∃n,v = .int k n/\(Lit.int k n).wf=true
 | .bool,v=>∃b,v = .bool b
def P0e:List FK->List Value->Prop
 | [],[]=>True
 | f::fs,v::vs=>f.ok v/\P0e fs vs
 | _,_=>False
theorem P0e.append:∀ {l l':List FK} {v v':List Value},P0e l v->P0e l' v'->P0e (l++l') (v++v')
 | [],_,[],_,_,h=>h
 | _::_,_,_::_,_,⟨h1,h2⟩,h=>⟨h1,P0e.append h2 h⟩
 | [],_,_::_,_,h,_=>h.elim
 | _::_,_,[],_,h,_=>h.elim
def w0k(P:Program)(F:TypeId->Option (List FK)):List Field->Nat->Option (List FK)
 | [],_=>some []
 | f::fs,off=>match F f.type,w0k P F fs (off+P.cellsOf f.type)with
   | some l,some r=>if f.offset=off/\l.length=P.cellsOf f.type then some (l++r)else none
   | _,_=>none
def t0m(P:Program):Nat->TypeId->Option (List FK)
 | 0,_=>none
 | d+1,t=>match P.underlying t with
   | some (.int k)=>some [.int k]
   | some .bool=>some [.bool]
   | some (.struct fs) => match w0k P (t0m P d) fs.toList 0 with
     | some l=>if l.length=P.cellsOf t then some l else none
     | none=>none
   | some (.array n e) => match t0m P d e with
     | some l=>if l.length=P.cellsOf e/\n*l.length=P.cellsOf t then some (List.replicate n l).flatten else none
     | none=>none
   | _=>none
section
variable {H:Type} {enc:TypeId×Value->H} {P:Program} {w:World} {base:Nat} {spare:Nat->Bool} {held:Bool}
theorem Q0e{F:TypeId->Option (List FK)}{n:Nat}(hF:∀t l cs x,F t=some l->DataW.trod enc P w base spare held n t cs=some x->P0e l cs){cs:List Value}{xs:List (DataW H×List MemPlace)}{all:List Field}(hxs:xs.length=all.length)
 (hf:∀(i:Nat) (f:Field),all[i]?=some f->DataW.trod enc P w base spare held n f.type ((cs.drop f.offset).take (P.cellsOf f.type))=xs[i]?) :
 ∀(fs pre:List Field) (off:Nat) (l:List FK),all=pre++fs->w0k P F fs off=some l->cs.length=off+l.length->P0e l (cs.drop off)
 | [],pre,off,l,he,h,hl=>by
   simp only[w0k,Option.some.injEq]at h
   subst h
   rw[List.drop_eq_nil_of_le (by simp at hl; omega)]; trivial
 | f::fs,pre,off,l,he,h,hl=>by
   simp only[w0k]at h
   split at h
   . rename_i l1 r h1 h2
     split at h
     . rename_i hc
       obtain⟨rfl,hlen⟩:=hc
       simp only[Option.some.injEq]at h
       subst h
       have hi:all[pre.length]?=some f:=by rw[he]; simp
       have g:=hf _ f hi
       have hx:pre.length<xs.length:=by rw[hxs,he]; simp
       rw[List.getElem?_eq_getElem hx]at g
       have a1:=hF _ _ _ _ h1 g
       have a2:=Q0e hF hxs hf fs (pre++[f]) (f.offset+P.cellsOf f.type) r (by rw[he]; simp) h2 (by rw[List.length_append]at hl; omega)
       have e:cs.drop f.offset=(cs.drop f.offset).take (P.cellsOf f.type)++cs.drop (f.offset+P.cellsOf f.type):=by
        rw[<-List.drop_drop,List.take_append_drop]
       rw[e]; exact a1.append a2
     . simp at h
   . simp at h
theorem D0c:∀(d:Nat) (fuel:Nat) (t:TypeId) (l:List FK) (cs:List Value) (x:DataW H×List MemPlace),t0m P d t=some l->DataW.trod enc P w base spare held fuel t cs=some x->P0e l cs
 | 0,_,_,_,_,_,h,_=>by simp[t0m]at h
 | d+1,fuel,t,l,cs,x,h,hx=>by
   simp only[t0m]at h
   split at h
   . rename_i k hu
     obtain⟨n,rfl,_,hw⟩:=DataW.trod_int hu hx
     simp only[Option.some.injEq]at h
     subst h
     exact⟨⟨n,rfl,hw⟩,trivial⟩
   . rename_i hu
     obtain⟨b,rfl,_⟩:=DataW.trod_bool hu hx
     simp only[Option.some.injEq]at h
     subst h
     exact⟨⟨b,rfl⟩,trivial⟩
   . rename_i fs hu
     obtain⟨xs,n,rfl,_,hl,hxs,hf⟩:=DataW.trod_struct hu hx
     split at h
     . rename_i l1 h1
       split at h
       . rename_i hc
         simp only[Option.some.injEq]at h
         subst h
         have:=Q0e (F:=t0m P d) (λt l cs x h1 h2=>D0c d n t l cs x h1 h2) (all:=fs.toList) (by simpa using hxs) (λi f hi=>hf i f (by simpa using hi)) fs.toList [] 0 l1 rfl h1 (by omega)
         simpa using this
       . simp at h
     . simp at h
   . rename_i n e hu
     obtain⟨xs,m,rfl,_,hl,hxs,hf⟩:=DataW.trod_array hu hx
     split at h
     . rename_i l1 h1
       split at h
       . rename_i hc
         obtain⟨c1,c2⟩:=hc
         simp only[Option.some.injEq]at h
         subst h
         have key:∀j,j<=n->P0e (List.replicate j l1).flatten (cs.take (j*P.cellsOf e)):=by
          intro j
          induction j with
          | zero=>intro _; simp; trivial
          | succ j ih =>
            intro hj
            have a1:=ih (by omega)
            have g:=hf j (by omega)
            rw[List.getElem?_eq_getElem (by omega:j<xs.length)]at g
            have a2:=D0c d m e l1 _ _ h1 g
            have e1:cs.take ((j+1)*P.cellsOf e)=cs.take (j*P.cellsOf e)++(cs.drop (j*P.cellsOf e)).take (P.cellsOf e):=by
             rw[Nat.add_mul,Nat.one_mul,List.take_add]
            have e2:(List.replicate (j+1) l1).flatten=(List.replicate j l1).flatten++l1:=by
             rw[List.replicate_succ']; simp
            rw[e1,e2]; exact a1.append a2
         have:=key n (Nat.le_refl _)
         rw[List.take_of_length_le (by rw[hl,<-c2,c1]; exact Nat.le_refl _)]at this
         exact this
       . simp at h
     . simp at h
   . simp at h
end
def C05(w:World):View:=λb=>match w.heap[b]? with|some (.cells cs _ _)=>some cs|_=>none
theorem x0k(w:World):(C05 w).In w:=by
 intro i cs hi
 unfold C05 at hi
 split at hi
 . rename_i cs' T fr hw
   simp at hi; subst hi
   exact⟨T,fr,hw⟩
 . simp at hi
theorem K0f{w:World}{p:Addr}{v:Value}(h:w.cell? p=some v):(C05 w).load (some p)=some v:=by
 unfold World.cell? at h
 unfold View.load C05
 split at h
 . rename_i c T fr hw
   simp only[hw]
   split at h
   . simp at h
   . rename_i hs
     simp only[hs]
     simpa using h
 . simp at h
section
variable {H:Type} {enc:TypeId×Value->H} {P:Program} {w:World} {base:Nat} {spare:Nat->Bool} {held:Bool}
theorem L0r{α:Type}{sz:Nat}{t e:TypeId}(ht:P.underlying t=some (.slice e))(hc:P.cellsOf e=sz)(ok:α->Prop)(E:View->List Value->α->Prop)
 (he:∀ {fuel:Nat} {cs:List Value} {x:DataW H×List MemPlace},DataW.trod enc P w base spare held fuel e cs=some x->∃z,ok z/\E (C05 w) cs z)
 {fuel:Nat} {cs:List Value} {x:DataW H×List MemPlace} (h:DataW.trod enc P w base spare held fuel t cs=some x) :
 ∃(s:Sl) (zs:List α),cs=[s.v]/\B00 sz E (C05 w) s zs/\zs.length<=maxLen/\∀z∈zs,ok z:=by
 rcases Go.Deep.open_slice ht h with⟨h1,_⟩|⟨a,l0,c0,m,n,D,Pl,h1,_,hl,hm,hmm,_,hx⟩
 . subst h1
   exact⟨Sl.mk none 0 0,[],rfl,B00.nil,Nat.zero_le _,by intro r hr; simp at hr⟩
 . subst h1
   have hlm:l0<=m:=by rw[hmm]; split<;>omega
   have key:∀k,k<=l0->∃(rs:List α) (o:List Value),rs.length=k/\(∀r∈rs,ok r)/\j01 sz E (C05 w) o rs/\(C05 w).has (some a) o:=by
    intro k
    induction k with
    | zero=>intro _; exact⟨[],[],rfl,by intro r hr; simp at hr,rfl,by intro j v hj; simp at hj⟩
    | succ k ih =>
      intro hk
      obtain⟨rs,o,hrl,hri,hcs,ho⟩:=ih (by omega)
      obtain⟨cs',g1,g2⟩:=hx k (by omega)
      obtain⟨r,hr,er⟩:=he g2
      rw[hc]at g1
      obtain⟨_,hcl,hcell⟩:=World.cells?_some g1
      have hol:=hcs.length
      refine⟨rs++[r],o++cs',by simp[hrl],?_,hcs.append (j01.one hcl er),?_⟩
      . intro x hx
        rcases List.mem_append.1 hx with h|h
        . exact hri x h
        . simp at h; subst h; exact hr
      . intro j v hj
        by_cases hjo:j<o.length
        . rw[List.getElem?_append_left hjo]at hj
          exact ho j v hj
        . rw[List.getElem?_append_right (by omega)]at hj
          have hj3:j-o.length<sz:=by
           rcases Nat.lt_or_ge (j-o.length) cs'.length with h|h
           . omega
           . rw[List.getElem?_eq_none h]at hj; simp at hj
          have hcj:=hcell (j-o.length) hj3
          rw[hj,u09]at hcj
          have e:k*sz+(j-o.length)=j:=by rw[hol,hrl]; rw[hol,hrl]at hjo; omega
          rw[e]at hcj
          exact K0f hcj
   obtain⟨rs,o,hrl,hri,hcs,ho⟩:=key l0 (Nat.le_refl _)
   exact⟨Sl.mk (some a) l0 c0,rs,rfl,⟨hrl.symm,hl,λ_=>rfl,o,ho,hcs⟩,by omega,hri⟩
theorem y0k{v x:Value}(h:v.cells.toList=[x])(hv:∃a l c,v = .slice a l c):v=x:=by
 obtain⟨a,l,c,rfl⟩:=hv
 simpa [Value.cells]using h
end
end Go.Proofs.YtfdaofhjkdabbaaGreat
namespace Go.Proofs.YtfdaofhjkdabbaaGreat
open Go Go.Vc Go.Proofs
open Go.Proofs.Tryz (prog)
open Go.IntKind (i64 u64 u32 u8)
theorem s0i(x:Nat):d09 prog l0b #[.float .f64 x] (.int .u64 (x:Int)):=λw=>by kernel_rfl
theorem N0b(x:Nat):d09 prog X08 #[.int .u64 (x:Int)] (.float .f64 x):=λw=>by kernel_rfl
theorem j0a{V:View}{x:Nat}(h:x<2^64):a00 prog f0j #[.float .f64 x] V λv _=>v = .bool (decide (¬okW x)):=by
 refine E0h x V _ ?_
 by_cases c:okW x
 . rw[D0b c c,decide_eq_false (λz=>z c)]
   have:compare (key x) (key x) = .eq:=by
    show compareOfLessAndEq _ _=_
    unfold compareOfLessAndEq; rw[if_neg (by omega),if_pos rfl]
   rw[this]; rfl
 . have:infR<x%2^63:=by unfold okW at c; omega
   rw[M0a this,decide_eq_true c]; rfl
theorem E0c:okW 9218868437227405311/\key 9218868437227405311=(infR:Int)-1:=by decide
theorem M0r{x:Nat}(h:okW x) : -(infR:Int)<=key x/\key x<=(infR:Int):=by
 obtain⟨h1,h2⟩:=h
 unfold key infR at *; split<;>omega
theorem w0n{V:View}{x:Nat}(h:x<2^64):a00 prog j09 #[.float .f64 x,.int .i64 1] V λv _=>v = .bool (decide (okW x/\key x=(infR:Int))):=by
 refine y08 x 1 V _ ⟨λh=>absurd h (by simp),λ_=>⟨λh=>absurd h (by simp),λ_ => ?_⟩⟩
 by_cases c:okW x
 . have:=M0r c
   rw[B0g c E0c.1,E0c.2]
   congr 2; apply propext; constructor
   . intro z; exact⟨c,by omega⟩
   . intro z; omega
 . have:infR<x%2^63:=by unfold okW at c; omega
   rw[M0a this,decide_eq_false (λz=>c z.1)]; rfl
theorem L0g{V:View}{x:Nat}(h:x<2^64):a00 prog j09 #[.float .f64 x,.int .i64 (-1)] V λv _=>v = .bool (decide (okW x/\key x = -(infR:Int))):=by
 refine y08 x (-1) V _ ⟨λh=>absurd h (by simp),λ_=>⟨λ_ => ?_,λh=>absurd h (by simp)⟩⟩
 by_cases c:okW x
 . have:=M0r c
   obtain⟨n1,n2⟩:=Y0j c
   rw[B0g n1 E0c.1,E0c.2,n2]
   congr 2; apply propext; constructor
   . intro z; exact⟨c,by omega⟩
   . intro z; omega
 . have h2:infR<x%2^63:=by unfold okW at c; omega
   have h3:infR<(Op.negFloat .f64 x)%2^63:=by rw[I08 h]; split<;>omega
   rw[M0a h3,decide_eq_false (λz=>c z.1)]; rfl
theorem N0r{V:View}:a00 prog j0g #[.int .i64 1] V λv _=>v = .float .f64 infR :=
 o0e 1 V _ ⟨λ_=>⟨infR,N0b infR,rfl⟩,λh=>absurd h (by simp)⟩
theorem U0t{V:View}:a00 prog j0g #[.int .i64 (-1)] V λv _=>v = .float .f64 18442240474082181120 :=
 o0e (-1) V _ ⟨λh=>absurd h (by simp),λ_=>⟨18442240474082181120,N0b 18442240474082181120,rfl⟩⟩
theorem O0r{x:Nat}(hx:x<18446744073709551616):(BitVec.ofInt 64 (x:Int)).toNat=x:=by
 rw[BitVec.toNat_ofInt]; omega
theorem F0c{x:Nat}(hx:x<2^64):(BitVec.ofInt u64.bits (x:Int)).toNat=x:=O0r (by omega)
theorem L08{y:Nat}(hy:y<2^64):u64.wrap (y:Int)=(y:Int):=u64w (by omega) (by omega)
theorem P0r{x m:Nat}(hx:x<2^64)(hm:m<2^64):u64.wrap (BitVec.toNat ((BitVec.ofInt u64.bits (x:Int)) &&& ~~~(BitVec.ofInt u64.bits (m:Int))))=((x &&& (2^64-1-m):Nat):Int):=by
 have h2:x &&& (2^64-1-m)<=x:=Nat.and_le_left
 have e3:(~~~(BitVec.ofInt u64.bits (m:Int))).toNat=2^64-1-m:=by
  rw[BitVec.toNat_not,F0c hm]; rfl
 rw[BitVec.toNat_and,F0c hx,e3]
 exact L08 (by omega)
theorem Q0r{x m:Nat}(hx:x<2^64)(hm:m<2^64):u64.wrap (BitVec.toNat ((BitVec.ofInt u64.bits (x:Int)) ||| (BitVec.ofInt u64.bits (m:Int))))=((x ||| m:Nat):Int):=by
 rw[BitVec.toNat_or,F0c hx,F0c hm]
 exact L08 (Nat.or_lt_two_pow hx hm)
theorem x0n{V:View}{x:Nat}(h:x<2^64):a00 prog C0o #[.float .f64 x] V λv _=>v = .float .f64 (x%2^63):=by
 refine S0l x V _ ⟨x,s0i x,x%2^63,?_,rfl⟩
 have e:=P0r (x:=x) (m:=2^63) h (by omega)
 have e2:x &&& (2^64-1-2^63)=x%2^63:=Nat.and_two_pow_sub_one_eq_mod x 63
 rw[e2]at e
 have e3:(((2^63:Nat):Int))=9223372036854775808:=by decide
 rw[e3]at e
 rw[e]; exact N0b _
theorem z0k{V:View}{x:Nat}(h:okW x):a00 prog j09 #[.float .f64 x,.int .i64 0] V λv _=>v = .bool (decide (x%2^63=infR)):=by
 refine y08 x 0 V _ ⟨λ_=>(x0n h.1).mono λv V1 _ hv=>⟨_,hv,?_⟩,λh=>absurd h (by simp)⟩
 have h2:=h.2
 have ok:okW (x%2^63):=⟨by omega,by omega⟩
 rw[B0g ok E0c.1,E0c.2]
 have:key (x%2^63)=((x%2^63:Nat):Int):=by unfold key; rw[if_pos (by omega)]
 rw[this]
 congr 2; apply propext; omega
theorem A0k{w:Nat}(h:w<2^63):key w=(w:Int):=by unfold key; rw[if_pos h]
theorem S0r{x:Nat}(hx:x<2^63):x &&& (2^64-1-9218868437227405312)=x%2^52:=by
 have hM:2^64-1-9218868437227405312=2^52*2^11+(2^52-1):=by decide
 rw[hM]
 have h1:(x &&& (2^52*2^11+(2^52-1)))%2^52=x%2^52:=by
  rw[Nat.and_mod_two_pow,Nat.mul_add_mod,Nat.mod_eq_of_lt (by omega:2^52-1<2^52),Nat.and_two_pow_sub_one_eq_mod,Nat.mod_mod]
 have h2:(x &&& (2^52*2^11+(2^52-1))) / 2^52=0:=by
  rw[Nat.and_div_two_pow]
  have e:(2^52*2^11+(2^52-1)) / 2^52=2^11:=by decide
  rw[e]
  apply Nat.eq_of_testBit_eq
  intro i
  rw[Nat.testBit_and,Nat.testBit_two_pow,Nat.zero_testBit]
  by_cases c:11=i
  . subst c
    rw[Nat.testBit_lt_two_pow (by omega:x / 2^52<2^11)]; rfl
  . rw[decide_eq_false c,Bool.and_false]
 omega
theorem T0r{x m e k:Nat}(hw:x=e*2^52+m)(he:e<=2045)(h1:2^52<=m)(h2:m<2^53)(hk:k<=2045) :
 u64.wrap (BitVec.toNat ((BitVec.ofInt u64.bits (u64.wrap (BitVec.toNat ((BitVec.ofInt u64.bits (x:Int)) &&& ~~~(BitVec.ofInt u64.bits 9218868437227405312))))) ||| (BitVec.ofInt u64.bits (u64.wrap ((u64.wrap ((k+1:Nat):Int))*2^(min (Int.toNat 52) (u64.bits)))))))=((k*2^52+m:Nat):Int):=by
 have hx:x<2^63:=by omega
 have a:=P0r (x:=x) (m:=9218868437227405312) (by omega) (by omega)
 rw[S0r hx]at a
 have am:x%2^52=m-2^52:=by omega
 rw[am]at a
 have a9:(((9218868437227405312:Nat)):Int)=9218868437227405312:=rfl
 rw[a9]at a
 rw[a]
 have hp:(2:Int)^(min (Int.toNat 52) u64.bits)=((2^52:Nat):Int):=by decide
 have e3:u64.wrap (u64.wrap ((k+1:Nat):Int)*((2^52:Nat):Int))=(((k+1)*2^52:Nat):Int):=by
  rw[L08 (y:=k+1) (by omega),<-Int.natCast_mul,L08 (by omega)]
 rw[hp,e3,Q0r (by omega) (by omega)]
 congr 1
 have hor:=Nat.two_pow_add_eq_or_of_lt (i:=52) (b:=m-2^52) (by omega) (k+1)
 rw[Nat.or_comm,Nat.mul_comm (k+1),<-hor]; omega
theorem d0x{n m e t k b c d:Nat}(hv:m*2^e=n*2^c)(h1:k+d=e+t)(h2:52+c=b+d):2^52*m*2^k=n*2^t*2^b:=by
 refine Nat.eq_of_mul_eq_mul_right (Nat.pow_pos (by omega):0<2^d) ?_
 have e1:2^52*m*2^k*2^d=2^52*(m*2^e)*2^t:=by
  rw[Nat.mul_assoc (2^52*m),<-Nat.pow_add,h1,Nat.pow_add]; ac_rfl
 have e2:n*2^t*2^b*2^d=n*2^t*(2^52*2^c):=by
  rw[Nat.mul_assoc (n*2^t),<-Nat.pow_add,<-Nat.pow_add,h2]
 rw[e1,e2,hv]; ac_rfl
theorem W0t:Ieee.double.read 4607182418800017408 = .number false (2^52) (-52):=by decide +kernel
theorem U0r:Ieee.double.read 4368491638549381120 = .number false (2^52) (-105):=by decide +kernel
theorem M0g{V:View}{n r:Nat}{s:Int}(h0:n≠0)(hn:n<=2^53)(s0 : -1074<=s)(s1:s<=2^40)(hr:r<infR)(h:rm r=n*2^(s+1074).toNat) :
 a00 prog Y0c #[.float .f64 (FloatKind.f64.nearest (n:Int)),.int .i64 s] V λv _=>v = .float .f64 r:=by
 obtain⟨e,m,hw,m1,m2,hv,e0,e1⟩:=c0k h0 hn
 generalize FloatKind.f64.nearest (n:Int)=x at hw
 have hx63:x<2^63:=by omega
 have hmod:x%2^63=x:=Nat.mod_eq_of_lt hx63
 have hxi:x<infR:=by unfold infR; omega
 have hok:okW x:=⟨by omega,by omega⟩
 have hkey:key x=(x:Int):=A0k hx63
 have hdiv:x / 2^52=e+1:=by omega
 have hmd:x%2^52=m-2^52:=by omega
 have hnl:=O0w h hr h0
 have hlm:n.log2+52=e-1022+52:=by
  have a1:=((L0d (n:=m) (k:=e) (by omega)).symm.trans (congrArg Nat.log2 hv)).trans (L0d (n:=n) (k:=1074) h0)
  have a2:m.log2=52:=(Nat.log2_eq_iff (by omega)).2 ⟨m1,m2⟩
  omega
 have hs:s<=1023:=by omega
 refine o0b x s V _ ⟨λh=>absurd h (by simp),λ_ => ?_⟩
 refine a00.mono (n0b x s V (λv _=>v = .float .f64 r) ⟨λhz => ?_,λ_ => ?_⟩) (λv V1 _ hv=>⟨r,hv,rfl⟩)
 . exfalso
   rw[X0j hok (by decide),hkey]at hz
   have:key 0=0:=by decide
   rw[this]at hz
   simp only[decide_eq_true_eq]at hz
   omega
 refine(z0k hok).mono λv V1 l1 hv1=>⟨_,hv1,λhc => ?_,λ_ => ?_⟩
 . exfalso; simp only[decide_eq_true_eq]at hc; omega
 refine(j0a (by omega:x<2^64)).mono λv V2 l2 hv2=>⟨_,hv2,λhc => ?_,λ_ => ?_⟩
 . exfalso; simp only[decide_eq_true_eq]at hc; exact hc hok
 have hnorm:a00 prog y0d #[.float .f64 x] V2 λv _=>v = .tuple #[.float .f64 x,.int .i64 0]:=by
  refine o0c x V2 _ ((x0n (by omega:x<2^64)).mono λv V3 l3 hv3=>⟨_,hv3,λhc => ?_,λ_=>rfl⟩)
  exfalso
  rw[hmod,D0u hok (by decide),hkey]at hc
  have:key 4503599627370496=4503599627370496:=by decide
  rw[this]at hc
  simp only[decide_eq_true_eq]at hc
  omega
 refine hnorm.mono λv V3 l3 hv3=>⟨x,0,hv3,x,s0i x,?_⟩
 have hE:i64.wrap (i64.wrap (s+0)+i64.wrap (i64.wrap (BitVec.toNat ((BitVec.ofInt i64.bits (i64.wrap (Int.fdiv (x:Int) (2^(min (Int.toNat 52) u64.bits))))) &&& (BitVec.ofInt i64.bits 2047)))-1023))=s+(e:Int)-1022:=by
  have hp:(2:Int)^(min (Int.toNat 52) u64.bits)=((2^52:Nat):Int):=by decide
  have hd:Int.fdiv (x:Int) ((2^52:Nat):Int)=((e+1:Nat):Int):=by
   rw[Int.fdiv_eq_ediv_of_nonneg _ (by omega),<-Int.natCast_ediv,hdiv]
  rw[hp,hd,i64w (n:=((e+1:Nat):Int)) (by omega) (by omega),BitVec.toNat_and]
  have b1:(BitVec.ofInt i64.bits ((e+1:Nat):Int)).toNat=e+1:=O0r (by omega)
  have b2:(BitVec.ofInt i64.bits 2047).toNat=2^11-1:=by decide
  rw[b1,b2,Nat.and_two_pow_sub_one_eq_mod,Nat.mod_eq_of_lt (by omega),i64w (n:=((e+1:Nat):Int)) (by omega) (by omega),i64w (n:=((e+1:Nat):Int)-1023) (by omega) (by omega),i64w (n:=s+0) (by omega) (by omega),i64w (by omega) (by omega)]
  omega
 rw[hE]
 refine⟨λhc => ?_,λ_=>⟨λhc => ?_,λ_=>⟨λhc => ?_,λhc => ?_⟩⟩⟩
 . exfalso; simp only[decide_eq_true_eq]at hc; omega
 . exfalso; simp only[decide_eq_true_eq]at hc; omega
 . simp only[decide_eq_true_eq]at hc
   obtain⟨k,hk⟩:∃k:Nat,(k:Int)=s+e+53:=⟨(s+e+53).toNat,by omega⟩
   have hk5:k<=2045:=by omega
   have w1:i64.wrap (i64.wrap (s+(e:Int)-1022+53)+1023)=((k+1:Nat):Int):=by
    rw[i64w (n:=s+(e:Int)-1022+53) (by omega) (by omega),i64w (by omega) (by omega)]; omega
   rw[w1,T0r hw (by omega) m1 m2 hk5]
   refine⟨_,N0b _,r,b0k U0r (a0k hk5 m1 m2) hr (by omega) (by omega) (a:=k) (b:=105) (by omega) ?_,rfl⟩
   rw[h]
   exact d0x (d:=1021) hv (by omega) (by omega)
 . simp only[decide_eq_false_iff_not]at hc
   obtain⟨k,hk⟩:∃k:Nat,(k:Int)=s+e:=⟨(s+e).toNat,by omega⟩
   have hk5:k<=2045:=by omega
   have w1:i64.wrap (s+(e:Int)-1022+1023)=((k+1:Nat):Int):=by
    rw[i64w (by omega) (by omega)]; omega
   rw[w1,T0r hw (by omega) m1 m2 hk5]
   refine⟨_,N0b _,r,b0k W0t (a0k hk5 m1 m2) hr (by omega) (by omega) (a:=k) (b:=52) (by omega) ?_,rfl⟩
   rw[h]
   exact d0x (d:=1074) hv (by omega) (by omega)
theorem y0p{V:View}{s:Int}:a00 prog Y0c #[.float .f64 (FloatKind.f64.nearest 0),.int .i64 s] V λv _=>v = .float .f64 0:=by
 rw[B0d]
 refine o0b 0 s V _ ⟨λh=>absurd h (by simp),λ_ => ?_⟩
 refine a00.mono (n0b 0 s V (λv _=>v = .float .f64 0) ⟨λ_=>rfl,λhz => ?_⟩) (λv V1 _ hv=>⟨0,hv,rfl⟩)
 exfalso; revert hz; decide
theorem S0e{V:View}{x:Nat}(h:x<2^64):a00 prog p0j #[.float .f64 x] V λv _=>v = .bool (decide (x%2^63<infR)):=by
 refine C0h x V _ ((j0a h).mono λv V1 _ hv=>⟨_,hv,λhc => ?_,λhc => ?_⟩)
 . have hok:okW x:=by simpa using hc
   refine(z0k hok).mono λv V2 _ hv=>⟨_,hv,?_⟩
   have:=hok.2
   by_cases c:x%2^63=infR
   . rw[decide_eq_true c,decide_eq_false (by omega)]; rfl
   . rw[decide_eq_false c,decide_eq_true (by omega)]; rfl
 . have hok:¬okW x:=by simpa using hc
   have:¬x%2^63<infR:=λc=>hok ⟨h,by omega⟩
   rw[decide_eq_false this]
def fld(x:Nat):Nat:=x / 2^52%2048
def mant(x:Nat):Nat:=if fld x=0 then x%2^52 else x%2^52+2^52
def up1(x:Nat):Nat:=if fld x=0 then 1 else fld x
def sgI(x:Nat)(n:Nat):Int:=if 2^63<=x then -(n:Int)else n
theorem t0i(x:Nat):mant x<2^53:=by unfold mant; split<;>omega
theorem N0v(x:Nat):rm (x%2^63)=mant x*2^(up1 x-1):=by
 have hf:x%2^63 / 2^52=fld x:=by unfold fld; omega
 have hm:x%2^63%2^52=x%2^52:=by omega
 unfold rm mant up1
 rw[hf,hm]
 by_cases c:fld x=0
 . rw[if_pos (by omega),if_pos c,if_pos c]; simp; omega
 . rw[if_neg (by omega),if_neg c,if_neg c,Nat.add_comm]
theorem e0x{x:Nat}(h:x<2^64):kz (key x)=sgI x (rm (x%2^63)):=by
 unfold kz sgI
 rw[Y0h h]
 by_cases c:2^63<=x
 . rw[if_pos c]
   by_cases z:key x<0
   . rw[if_pos z]
   . rw[if_neg z]
     have:x%2^63=0:=by unfold key at z; split at z<;>omega
     rw[this,y0c]; rfl
 . rw[if_neg c,if_neg (by unfold key; rw[if_pos (by omega)]; omega)]
theorem y0n{x m:Nat}(hx:x<2^64)(hm:m<2^64):u64.wrap (BitVec.toNat ((BitVec.ofInt u64.bits (x:Int)) &&& (BitVec.ofInt u64.bits (m:Int))))=((x &&& m:Nat):Int):=by
 have h2:x &&& m<=x:=Nat.and_le_left
 rw[BitVec.toNat_and,F0c hx,F0c hm]
 exact L08 (by omega)
theorem z0n{x k:Nat}:Int.fdiv (x:Int) ((2^k:Nat):Int)=((x / 2^k:Nat):Int):=by
 rw[Int.fdiv_eq_ediv_of_nonneg _ (Int.natCast_nonneg _),<-Int.natCast_ediv]
theorem T0e(x:Nat):1<=up1 x/\up1 x<=2047:=by
 have:fld x<2048:=by unfold fld; omega
 unfold up1
 by_cases c:fld x=0
 . rw[if_pos c]; omega
 . rw[if_neg c]; omega
theorem K0u(x:Nat):(if(1:Int)>(fld x:Int)then(1:Int)else(fld x:Int))=(up1 x:Int):=by
 unfold up1
 by_cases c:fld x=0
 . rw[if_pos (by omega),if_pos c]; rfl
 . rw[if_neg (by omega),if_neg c]
def fq(x:Nat):Rat:=(kz (key x):Rat) / ((2^1074:Nat):Rat)
theorem N0g{V:View}{x:Nat}(h:finW x):a00 prog J0l #[.float .f64 x] V λv V'=>∃r:WhV,v = .tuple #[r.val,.int .i64 ((up1 x:Int)-1075)]/\k04 V' r (sgI x (mant x)):=by
 have h64:=h.1
 have hfl:fld x<2048:=by unfold fld; omega
 have hp52:(2:Int)^(min (Int.toNat 52) u64.bits)=((2^52:Nat):Int):=by decide
 have hp63:(2:Int)^(min (Int.toNat 63) u64.bits)=((2^63:Nat):Int):=by decide
 have e1:i64.wrap (u64.wrap (BitVec.toNat ((BitVec.ofInt u64.bits (Int.fdiv (x:Int) (2^(min (Int.toNat 52) (u64.bits))))) &&& (BitVec.ofInt u64.bits 2047))))=(fld x:Int):=by
  have:=y0n (x:=x / 2^52) (m:=2047) (by omega) (by omega)
  have e:x / 2^52 &&& 2047=fld x:=Nat.and_two_pow_sub_one_eq_mod (x / 2^52) 11
  rw[e]at this
  rw[hp52,z0n]
  rw[show(((2047:Nat)):Int)=2047 from rfl]at this
  rw[this,i64w (by omega) (by omega)]
 have e2:u64.wrap (BitVec.toNat ((BitVec.ofInt u64.bits (x:Int)) &&& (BitVec.ofInt u64.bits 4503599627370495)))=((x%2^52:Nat):Int):=by
  have:=y0n (x:=x) (m:=4503599627370495) (by omega) (by omega)
  have e:x &&& 4503599627370495=x%2^52:=Nat.and_two_pow_sub_one_eq_mod x 52
  rw[e]at this
  exact this
 have e3:((Int.fdiv (x:Int) (2^(min (Int.toNat 63) (u64.bits))):Int)==1)=decide (2^63<=x):=by
  rw[hp63,z0n]
  by_cases c:2^63<=x
  . have:x / 2^63=1:=by omega
    rw[this,decide_eq_true c]; rfl
  . have:x / 2^63=0:=by omega
    rw[this,decide_eq_false c]; rfl
 refine u0j x V _ ⟨x,s0i x,?_⟩
 rw[e1,e2,e3]
 have hw:∀ {V1:View} {s:Sl} {n:Nat},e01 V1 s n->n=mant x->a00 prog u08 #[.bool (decide (2^63<=x)),s.v] V1 λv V'=>∃r:WhV,v=r.val/\k04 V' r (sgI x (mant x)):=by
  intro V1 s n hs hn
  refine(s02 (decide (2^63<=x)) hs).mono λv V2 _ ⟨r,hv,hr⟩=>⟨r,hv,?_⟩
  subst hn
  unfold sgI
  by_cases c:2^63<=x
  . rw[decide_eq_true c]at hr; rw[if_pos c]; simpa using hr
  . rw[decide_eq_false c]at hr; rw[if_neg c]; simpa using hr
 refine⟨λhc => ?_,λhc => ?_⟩
 . simp only[decide_eq_true_eq]at hc
   have e4:u64.wrap (BitVec.toNat ((BitVec.ofInt u64.bits ((x%2^52:Nat):Int)) ||| (BitVec.ofInt u64.bits 4503599627370496)))=((mant x:Nat):Int):=by
    have:=Q0r (x:=x%2^52) (m:=4503599627370496) (by omega) (by omega)
    have hor:=Nat.two_pow_add_eq_or_of_lt (i:=52) (b:=x%2^52) (by omega) 1
    have e:x%2^52 ||| 4503599627370496=mant x:=by
     rw[Nat.or_comm]
     have h1:2^52*1=4503599627370496:=by decide
     rw[h1]at hor
     rw[<-hor]; unfold mant; rw[if_neg (by omega)]; omega
    rw[e]at this
    exact this
   rw[e4]
   have:=t0i x
   refine(c05 (n:=((mant x:Nat):Int)) (by omega) (by omega)).mono λv V1 _ ⟨s,hv,hs⟩=>⟨s,hv,?_⟩
   refine(hw hs (by omega)).mono λv V2 _ ⟨r,hv,hr⟩=>⟨r,hv,r,?_,hr⟩
   have hu:=T0e x
   rw[K0u x,i64w (by omega) (by omega)]
 . simp only[decide_eq_false_iff_not]at hc
   have hf0:fld x=0:=by omega
   have em:x%2^52=mant x:=by unfold mant; rw[if_pos hf0]
   rw[em]
   have:=t0i x
   refine(c05 (n:=((mant x:Nat):Int)) (by omega) (by omega)).mono λv V1 _ ⟨s,hv,hs⟩=>⟨s,hv,?_⟩
   refine(hw hs (by omega)).mono λv V2 _ ⟨r,hv,hr⟩=>⟨r,hv,r,?_,hr⟩
   have hu:=T0e x
   rw[K0u x,i64w (by omega) (by omega)]
theorem O06(k:Nat):bl (2^k)<=k+1:=W03 (by rw[Nat.pow_succ]; have:0<2^k:=Nat.pow_pos (by omega); omega)
theorem O0v(x k:Nat):bl (mant x*2^k)<=54+k:=by
 have h1:=g0d (mant x) (2^k)
 have h2:bl (mant x)<=53:=W03 (t0i x)
 have h3:=O06 k
 omega
theorem W0r(x a b:Nat):sgI x a*(b:Int)=sgI x (a*b):=by
 unfold sgI; split
 . rw[Int.neg_mul,Int.natCast_mul]
 . rw[Int.natCast_mul]
theorem u0m(x a:Nat):(sgI x a).natAbs=a:=by unfold sgI; split<;>omega
theorem X0r:(2^1074:Nat)≠0:=by
 exact Nat.pos_iff_ne_zero.1 (Nat.pow_pos (a:=2) (n:=1074) (by omega))
theorem Y0r{x k:Nat}{n:Nat}(h:x<2^64)(hn:(n:Int)=(up1 x:Int)-1075+k):fq x=(sgI x (mant x*2^n):Rat) / ((2^k:Nat):Rat):=by
 have hk:(2^k:Nat)≠0:=by
  have:0<2^k:=Nat.pow_pos (by omega)
  omega
 unfold fq
 rw[K01 X0r hk,e0x h,N0v,W0r,W0r]
 have:=T0e x
 have e:up1 x-1+k=n+1074:=by omega
 rw[Nat.mul_assoc,Nat.mul_assoc,<-Nat.pow_add 2 (up1 x-1) k,<-Nat.pow_add 2 n 1074,e]
theorem J0x{x:Nat}{z:Rat}{k n j m:Nat}{y:Nat}(h:x<2^64)(hy:y<2^64)(hn:(n:Int)=(up1 x:Int)-1075+k)(hm:(m:Int)=(up1 y:Int)-1075+k):Rep ⟨fq x,fq y⟩ (sgI x (mant x*2^n)) (sgI y (mant y*2^m)) (2^k) :=
 ⟨by have : 0 < 2 ^ k := Nat.pow_pos (by omega)
     omega,Y0r h hn,Y0r hy hm⟩
theorem O0g{V:View}{b:Nat}(hb:V b=some #[.int .u32 1]):e01 V ⟨some ⟨b,0,none⟩,1,1⟩ 1:=by
 have:dig 1=[1]:=by rw[W04 (by omega)]; simp[Q03]
 unfold e01; rw[this]
 exact l02.of_block (by rw[hb]; rfl) rfl (Nat.le_refl _) (by intro d hd; simp at hd; omega)
theorem L0u:wn 1<=2^43:=wn64 (by omega)
theorem B0k{V:View}{c:CxV}(h1:finW c.re)(h2:finW c.im) :
 a00 prog w0h #[.complex .f64 c.re c.im] V λv V'=>∃r:NumV,v = .tuple #[r.val,.int .i64 0]/\N00 V' r ⟨fq c.re,fq c.im⟩:=by
 have f1:decide (c.re%2^63<infR)=true:=decide_eq_true h1.2
 have f2:decide (c.im%2^63<infR)=true:=decide_eq_true h2.2
 have u1:=T0e c.re
 have u2:=T0e c.im
 refine E0f c V _ ((S0e h1.1).mono λv V1 l1 hv=>⟨_,hv,λhc => ?_,λ_ => ?_⟩)
 . rw[f1]at hc; simp at hc
 refine(S0e h2.1).mono λv V2 l2 hv=>⟨_,hv,λhc => ?_,λ_ => ?_⟩
 . rw[f2]at hc; simp at hc
 refine(N0g h1).mono λv V3 l3 ⟨a,hv,ha⟩=>⟨a,_,hv,?_⟩
 refine(N0g h2).mono λv V4 l4 ⟨b,hv,hb⟩=>⟨b,_,hv,?_⟩
 obtain⟨k,hk,hk2⟩:∃k:Nat,(if(i64.wrap (0-((up1 c.im:Int)-1075)):Int)>(if(i64.wrap (0-((up1 c.re:Int)-1075)):Int)>0 then i64.wrap (0-((up1 c.re:Int)-1075))else 0)then i64.wrap (0-((up1 c.im:Int)-1075))else(if(i64.wrap (0-((up1 c.re:Int)-1075)):Int)>0 then i64.wrap (0-((up1 c.re:Int)-1075))else 0))=(k:Int)/\1075-(up1 c.re:Int)<=k/\1075-(up1 c.im:Int)<=k/\k<=1074:=by
  rw[i64w (n:=0-((up1 c.im:Int)-1075)) (by omega) (by omega),i64w (n:=0-((up1 c.re:Int)-1075)) (by omega) (by omega)]
  by_cases g1:0-((up1 c.re:Int)-1075)>0
  . rw[if_pos g1]
    by_cases g2:0-((up1 c.im:Int)-1075)>0-((up1 c.re:Int)-1075)
    . rw[if_pos g2]; exact⟨(0-((up1 c.im:Int)-1075)).toNat,by omega,by omega,by omega,by omega⟩
    . rw[if_neg g2]; exact⟨(0-((up1 c.re:Int)-1075)).toNat,by omega,by omega,by omega,by omega⟩
  . rw[if_neg g1]
    by_cases g2:0-((up1 c.im:Int)-1075)>0
    . rw[if_pos g2]; exact⟨(0-((up1 c.im:Int)-1075)).toNat,by omega,by omega,by omega,by omega⟩
    . rw[if_neg g2]; exact⟨0,by omega,by omega,by omega,by omega⟩
 rw[hk]
 obtain⟨n,hn⟩:∃n:Nat,(n:Int)=(up1 c.re:Int)-1075+k:=⟨((up1 c.re:Int)-1075+k).toNat,by omega⟩
 obtain⟨m,hm⟩:∃m:Nat,(m:Int)=(up1 c.im:Int)-1075+k:=⟨((up1 c.im:Int)-1075+k).toNat,by omega⟩
 have w1:i64.wrap ((up1 c.re:Int)-1075+k)=(n:Int):=by rw[i64w (by omega) (by omega),hn]
 have w2:i64.wrap ((up1 c.im:Int)-1075+k)=(m:Int):=by rw[i64w (by omega) (by omega),hm]
 rw[w1,w2]
 have ma:=ha.2
 have mb:=hb.2
 rw[u0m]at ma mb
 have wa:∀x,wn (mant x)<=2^43:=λx=>wn64 (by have:=t0i x; omega)
 have wb:∀x j,j<=4000->wn (mant x*2^j)<=2^43:=λx j hj=>B0b (by have:=O0v x j; omega)
 have neg:∀(y:Nat) (r:WhV),k04 V4 r (sgI y (mant y))->mant y≠0->r.neg=decide (2^63<=y):=by
  intro y r hr h0
  rw[hr.1]
  unfold sgI
  by_cases g:2^63<=y
  . rw[if_pos g,decide_eq_true g,decide_eq_true (by omega)]
  . rw[if_neg g,decide_eq_false g,decide_eq_false (by omega)]
 have whole:∀ {W:View} {s:Sl} (y:Nat) (r:WhV) (j:Nat),k04 V4 r (sgI y (mant y))->e01 W s (mant y*2^j)->a00 prog u08 #[.bool r.neg,s.v] W λv V'=>∃q:WhV,v=q.val/\k04 V' q (sgI y (mant y*2^j)):=by
  intro W s y r j hr hs
  refine(s02 r.neg hs).mono λv V' _ ⟨q,hv,hq⟩=>⟨q,hv,?_⟩
  by_cases h0:mant y=0
  . rw[h0,Nat.zero_mul]at hq ⊢
    have e:(if r.neg=true then -((0:Nat):Int)else((0:Nat):Int))=0:=by split<;>rfl
    rw[e]at hq
    have e2:sgI y 0=0:=by unfold sgI; split<;>rfl
    rw[e2]; exact hq
  . rw[neg y r hr h0]at hq
    unfold sgI
    by_cases g:2^63<=y
    . rw[if_pos g]; rw[decide_eq_true g]at hq; simpa using hq
    . rw[if_neg g]; rw[decide_eq_false g]at hq; simpa using hq
 have ha4:=ha.le l4
 have wa44:∀x,wn (mant x)<=2^44:=λx=>Nat.le_trans (wa x) (by decide)
 refine(o03 (ma.le l4) (wa44 c.re) (by omega)).mono λv V5 l5 ⟨s,hv,hs⟩=>⟨s,hv,?_⟩
 refine(whole c.re a n ha4 hs).mono λv V6 l6 ⟨p,hv,hp⟩=>⟨p,hv,?_⟩
 refine(o03 (mb.le (View.le_trans l5 l6)) (wa44 c.im) (by omega)).mono λv V7 l7 ⟨s',hv,hs'⟩=>⟨s',hv,?_⟩
 refine(whole c.im b m hb hs').mono λv V8 l8 ⟨q,hv,hq⟩=>⟨q,hv,λb1 V9 l9 hf hb1 => ?_⟩
 have one:e01 V9 ⟨some ⟨b1,0,none⟩,1,1⟩ 1:=O0g hb1
 refine(o03 one (Nat.le_trans L0u (by decide)) (by omega:k<=2^44)).mono λv V10 l10 ⟨s2,hv,hs2⟩=>⟨s2,hv,?_⟩
 rw[Nat.one_mul]at hs2
 have R:=J0x (z:=0) (j:=0) h1.1 h2.1 hn hm
 refine(S03 (hp.le (View.le_trans l7 (View.le_trans l8 (View.le_trans l9 l10)))) (hq.le (View.le_trans l9 l10)) hs2 R (by rw[u0m]; exact wb _ _ (by omega)) (by rw[u0m]; exact wb _ _ (by omega)) (B0b (by have:=O06 k; omega))).mono λv V11 l11 ⟨r,hv,hr⟩=>⟨r,hv,r,rfl,hr⟩
theorem K0s{z:Cq}{A B:Int}{D:Nat}(h:Rep z A B D):Rep ⟨z.re,0⟩ A 0 D:=⟨h.pos,h.re,by simp[Rat.div_def]⟩
theorem L0s{z:Cq}{A B:Int}{D:Nat}(h:Rep z A B D):Rep ⟨z.im,0⟩ B 0 D:=⟨h.pos,h.im,by simp[Rat.div_def]⟩
theorem f0x(z:Cq):(⟨z.re,0⟩:Cq).sz<=z.sz+1 :=
 (K0s z.canon.rep).sz (by have:=z.szA; omega) (by rw[Int.natAbs_zero,t09]; omega) (by have:=z.szD; omega)
theorem g0x(z:Cq):(⟨z.im,0⟩:Cq).sz<=z.sz+1 :=
 (L0s z.canon.rep).sz (by have:=z.szB; omega) (by rw[Int.natAbs_zero,t09]; omega) (by have:=z.szD; omega)
theorem U0e{V:View}{x:NumV}{z:Cq}(h:N00 V x z)(hz:z.sz<=2^40):a00 prog c0t #[x.val] V λv V'=>∃r:NumV,v=r.val/\N00 V' r ⟨z.re,0⟩:=by
 have zA:=Cq.wA hz; have zB:=Cq.wB hz; have zD:=Cq.wD hz
 refine E0q x V _ ((i01 h).mono λv V1 l1 ⟨d,hv,hd⟩=>⟨d,hv,?_⟩)
 exact(S03 (h.re.le l1) (k04.zero V1) hd (K0s z.canon.rep) (by omega) (by rw[Int.natAbs_zero,I07]; omega) (by omega)).mono λv V2 _ ⟨r,hv,hr⟩=>⟨r,hv,r,rfl,hr⟩
theorem W0e{V:View}{x:NumV}{z:Cq}(h:N00 V x z)(hz:z.sz<=2^40):a00 prog d0t #[x.val] V λv V'=>∃r:NumV,v=r.val/\N00 V' r ⟨z.im,0⟩:=by
 have zA:=Cq.wA hz; have zB:=Cq.wB hz; have zD:=Cq.wD hz
 refine F0q x V _ ((i01 h).mono λv V1 l1 ⟨d,hv,hd⟩=>⟨d,hv,?_⟩)
 exact(S03 (h.im.le l1) (k04.zero V1) hd (L0s z.canon.rep) (by omega) (by rw[Int.natAbs_zero,I07]; omega) (by omega)).mono λv V2 _ ⟨r,hv,hr⟩=>⟨r,hv,r,rfl,hr⟩
theorem M0u{z:Cq}:z.A=0↔z.re=0:=by
 have h:=z.canon.rep
 have hD:=D03 h.pos
 rw[h.re]
 constructor
 . intro e; rw[e]; simp[Rat.div_def]
 . intro e
   have:(z.A:Rat)=0:=by
    have:(z.A:Rat)=(z.A:Rat) / (z.D:Rat)*(z.D:Rat):=by rw[Rat.div_mul_cancel hD]
    rw[this,e]; simp
   exact_mod_cast this
theorem B_zero{z:Cq}:z.B=0↔z.im=0:=by
 have h:=z.canon.rep
 have hD:=D03 h.pos
 rw[h.im]
 constructor
 . intro e; rw[e]; simp[Rat.div_def]
 . intro e
   have:(z.B:Rat)=0:=by
    have:(z.B:Rat)=(z.B:Rat) / (z.D:Rat)*(z.D:Rat):=by rw[Rat.div_mul_cancel hD]
    rw[this,e]; simp
   exact_mod_cast this
theorem u0a{V:View}{x:NumV}{z:Cq}(h:N00 V x z)(hz:z.sz<=2^40):a00 prog i0e #[x.val] V λv _=>v = .bool (decide (z≠Cq.zero)):=by
 have zA:=Cq.wA hz; have zB:=Cq.wB hz
 refine w0j x V _ ?_
 have a1:=h.re.2.len; have a2:=h.im.2.len
 have b1:=h.re.2.len_zero; have b2:=h.im.2.len_zero
 have c1:x.re.mag.len<=2^50:=by
  have:x.re.mag.len=wn z.A.natAbs:=by rw[wn]; exact a1.symm▸rfl
  omega
 have c2:x.im.mag.len<=2^50:=by
  have:x.im.mag.len=wn z.B.natAbs:=by rw[wn]; exact a2.symm▸rfl
  omega
 rw[i64w (by omega) (by omega)]
 have d1:x.re.mag.len=0↔z.re=0:=by rw[b1,<-M0u]; omega
 have d2:x.im.mag.len=0↔z.im=0:=by rw[b2,<-B_zero]; omega
 have e:(z≠Cq.zero)↔((x.re.mag.len:Int)+(x.im.mag.len:Int)>0):=by
  constructor
  . intro hne
    rcases Nat.eq_zero_or_pos x.re.mag.len with p|p
    . rcases Nat.eq_zero_or_pos x.im.mag.len with q|q
      . exact absurd (Cq.ext' (d1.1 p) (d2.1 q)) hne
      . omega
    . omega
  . rintro hp rfl
    have p:=d1.2 rfl; have q:=d2.2 rfl
    omega
 simp only[e]
theorem Rep.div{z w:Cq}{A B a b:Int}{D d n:Nat}(hw:Rep w A B D)(ht:Rep (z*⟨(A:Rat),-(B:Rat)⟩) a b d)(hn:(n:Int)=A*A+B*B)(h0:n≠0):Rep (z.div w) (a*D) (b*D) (d*n):=by
 have hD:=D03 hw.pos
 have hd:=D03 ht.pos
 have hn0:=D03 h0
 have hN:(n:Rat)=(A:Rat)*A+B*B:=by exact_mod_cast hn
 have t1:=ht.re; have t2:=ht.im
 rw[T02]at t1; rw[U02]at t2
 dsimp only at t1 t2
 refine⟨Nat.mul_ne_zero ht.pos h0,?_,?_⟩
 . show(z.re*w.re+z.im*w.im) / (w.re*w.re+w.im*w.im)=_
   rw[hw.re,hw.im,Rat.intCast_mul,Rat.natCast_mul,Rat.intCast_natCast]
   have e1:z.re*((A:Rat) / (D:Rat))+z.im*((B:Rat) / (D:Rat))=(a:Rat) / (d:Rat) / (D:Rat):=by rw[<-t1]; grind
   have e2:(A:Rat) / (D:Rat)*((A:Rat) / (D:Rat))+(B:Rat) / (D:Rat)*((B:Rat) / (D:Rat))=(n:Rat) / ((D:Rat)*(D:Rat)):=by rw[hN]; grind
   rw[e1,e2]; grind
 . show(z.im*w.re-z.re*w.im) / (w.re*w.re+w.im*w.im)=_
   rw[hw.re,hw.im,Rat.intCast_mul,Rat.natCast_mul,Rat.intCast_natCast]
   have e1:z.im*((A:Rat) / (D:Rat))-z.re*((B:Rat) / (D:Rat))=(b:Rat) / (d:Rat) / (D:Rat):=by rw[<-t2]; grind
   have e2:(A:Rat) / (D:Rat)*((A:Rat) / (D:Rat))+(B:Rat) / (D:Rat)*((B:Rat) / (D:Rat))=(n:Rat) / ((D:Rat)*(D:Rat)):=by rw[hN]; grind
   rw[e1,e2]; grind
theorem N0c(A B:Int):Rep ⟨(A:Rat),-(B:Rat)⟩ A (-B) 1:=by
 refine⟨by omega,?_,?_⟩
 . rw[Rat.div_def]; simp; grind
 . rw[Rat.div_def]; simp; grind
theorem J09{V:View}{x y:NumV}{z w:Cq}(hx:N00 V x z)(hy:N00 V y w)(hz:z.sz<=2^36)(hw:w.sz<=2^36) :
 a00 prog b0j #[x.val,y.val] V λv V'=>∃(r:NumV) (e:Int),v = .tuple #[r.val,.int .i64 e]/\(w=Cq.zero->e=3/\N00 V' r Cq.zero)/\(w≠Cq.zero->e=0/\N00 V' r (z.div w)):=by
 have hw40:w.sz<=2^40:=by omega
 have wA:=Cq.wA hw40; have wB:=Cq.wB hw40; have wD:=Cq.wD hw40
 have sA:=w.szA; have sB:=w.szB; have sD:=w.szD
 refine a0p x y V _ ((u0a hy hw40).mono λv V1 l1 hv=>⟨_,hv,λhc => ?_,λhc => ?_⟩)
 . have hc:w=Cq.zero:=by simpa using hc
   exact⟨_,_,rfl,λ_=>⟨rfl,N00.zero V1⟩,λh=>absurd hc h⟩
 have hc:w≠Cq.zero:=by simpa using hc
 replace hx:=hx.le l1; replace hy:=hy.le l1
 have m1:=X04 wA wA; have m2:=X04 wB wB
 refine(F03 hy.re hy.re (by omega) (by omega)).mono λv V2 l2 ⟨r2,hv,h2⟩=>⟨r2,hv,?_⟩
 replace hx:=hx.le l2; replace hy:=hy.le l2
 refine(F03 hy.im hy.im (by omega) (by omega)).mono λv V3 l3 ⟨r3,hv,h3⟩=>⟨r3,hv,?_⟩
 replace hx:=hx.le l3; replace hy:=hy.le l3; replace h2:=h2.le l3
 refine(b04 h2 h3 (by omega) (by omega)).mono λv V4 l4 ⟨r4,hv,h4⟩=>⟨r4,hv,?_⟩
 replace hx:=hx.le l4; replace hy:=hy.le l4
 refine(E03 hy.im).mono λv V5 l5 ⟨r5,hv,h5⟩=>⟨r5,hv,λb1 V6 l6 _ hb1 => ?_⟩
 replace hx:=hx.le (View.le_trans l5 l6); replace hy:=hy.le (View.le_trans l5 l6); replace h4:=h4.le (View.le_trans l5 l6); replace h5:=h5.le l6
 refine(S03 hy.re h5 (O0g hb1) (N0c w.A w.B) (by omega) (by rw[Int.natAbs_neg]; omega) L0u).mono λv V7 l7 ⟨r6,hv,h6⟩=>⟨r6,hv,?_⟩
 replace hx:=hx.le l7; replace hy:=hy.le l7; replace h4:=h4.le l7
 have cs:(⟨(w.A:Rat),-(w.B:Rat)⟩:Cq).sz<=2^36+1:=(N0c w.A w.B).sz (by omega) (by rw[Int.natAbs_neg]; omega) (by rw[O0q]; omega)
 refine(p03 hx h6 (by omega) (by omega)).mono λv V8 l8 ⟨r7,hv,h7⟩=>⟨r7,hv,?_⟩
 replace hy:=hy.le l8; replace h4:=h4.le l8
 have ts:=y03 z ⟨(w.A:Rat),-(w.B:Rat)⟩
 have ts40:(z*⟨(w.A:Rat),-(w.B:Rat)⟩).sz<=2^40:=by omega
 have tA:=Cq.wA ts40; have tB:=Cq.wB ts40; have tD:=Cq.wD ts40
 refine(i01 hy).mono λv V9 l9 ⟨r8,hv,h8⟩=>⟨r8,hv,?_⟩
 replace hy:=hy.le l9; replace h4:=h4.le l9; replace h7:=h7.le l9
 refine(t01 h7.re h8 (by omega) (by omega)).mono λv V10 l10 ⟨r9,hv,h9⟩=>⟨r9,hv,?_⟩
 replace hy:=hy.le l10; replace h4:=h4.le l10; replace h7:=h7.le l10
 refine(i01 hy).mono λv V11 l11 ⟨r10,hv,h10⟩=>⟨r10,hv,?_⟩
 replace h4:=h4.le l11; replace h7:=h7.le l11; replace h9:=h9.le l11
 refine(t01 h7.im h10 (by omega) (by omega)).mono λv V12 l12 ⟨r11,hv,h11⟩=>⟨r11,hv,?_⟩
 replace h4:=h4.le l12; replace h7:=h7.le l12; replace h9:=h9.le l12
 refine(i01 h7).mono λv V13 l13 ⟨r12,hv,h12⟩=>⟨r12,hv,?_⟩
 replace h4:=h4.le l13; replace h9:=h9.le l13; replace h11:=h11.le l13
 have n1:=O0e m1 m2
 refine(d06 h12 h4.2 (by omega) (by omega)).mono λv V14 l14 ⟨r13,hv,h13⟩=>⟨r13,hv,?_⟩
 replace h9:=h9.le l14; replace h11:=h11.le l14
 have p1:=q09 (z*⟨(w.A:Rat),-(w.B:Rat)⟩).D (w.A*w.A+w.B*w.B).natAbs
 have q1:=X04 tA (b:=(w.D:Int)) (by rw[Int.natAbs_natCast]; exact wD)
 have q2:=X04 tB (b:=(w.D:Int)) (by rw[Int.natAbs_natCast]; exact wD)
 have hsq:(0:Int)<=w.A*w.A+w.B*w.B:=Int.add_nonneg (by rw[<-Int.natAbs_mul_self]; exact Int.natCast_nonneg _) (by rw[<-Int.natAbs_mul_self]; exact Int.natCast_nonneg _)
 refine(S03 h9 h11 h13 (Rep.div w.canon.rep (z*⟨(w.A:Rat),-(w.B:Rat)⟩).canon.rep (Int.natAbs_of_nonneg hsq) ?_) (by omega) (by omega) (by omega)).mono λv V15 _ ⟨r,hv,hr⟩=>⟨r,hv,r,_,rfl,λh=>absurd h hc,λ_=>⟨rfl,hr⟩⟩
 intro h0
 have e0:w.A*w.A+w.B*w.B=0:=Int.natAbs_eq_zero.1 h0
 have a0:w.A=0:=by
  by_cases h:w.A=0
  . exact h
  . have:0<w.A*w.A:=by
      have:0<w.A.natAbs*w.A.natAbs:=Nat.mul_pos (by omega) (by omega)
      rw[<-Int.natAbs_mul_self]; exact_mod_cast this
    have:(0:Int)<=w.B*w.B:=by rw[<-Int.natAbs_mul_self]; exact Int.natCast_nonneg _
    omega
 have b0:w.B=0:=by
  rw[a0]at e0
  have:w.B*w.B=0:=by omega
  rcases Int.mul_eq_zero.1 this with h|h<;>exact h
 exact hc (Cq.ext' (M0u.1 a0) (B_zero.1 b0))
theorem C0k{z w:Cq}{S:Nat}(hz:z.sz<=S)(hw:w.sz<=S):(z.div w).sz<=4*S+8:=by
 have sA:=w.szA; have sB:=w.szB; have sD:=w.szD
 have cs:(⟨(w.A:Rat),-(w.B:Rat)⟩:Cq).sz<=S+1:=(N0c w.A w.B).sz (by omega) (by rw[Int.natAbs_neg]; omega) (by rw[O0q]; omega)
 have ts:=y03 z ⟨(w.A:Rat),-(w.B:Rat)⟩
 have tA:=(z*⟨(w.A:Rat),-(w.B:Rat)⟩:Cq).szA; have tB:=(z*⟨(w.A:Rat),-(w.B:Rat)⟩:Cq).szB; have tD:=(z*⟨(w.A:Rat),-(w.B:Rat)⟩:Cq).szD
 have hsq:(0:Int)<=w.A*w.A+w.B*w.B:=Int.add_nonneg (by rw[<-Int.natAbs_mul_self]; exact Int.natCast_nonneg _) (by rw[<-Int.natAbs_mul_self]; exact Int.natCast_nonneg _)
 by_cases h0:(w.A*w.A+w.B*w.B).natAbs=0
 . have:z.div w=Cq.zero:=by
     have hr:=w.canon.rep
     have e0:w.A*w.A+w.B*w.B=0:=Int.natAbs_eq_zero.1 h0
     have hn:w.norm=0:=by
      unfold Cq.norm
      rw[hr.re,hr.im]
      have:(w.A:Rat)*w.A+w.B*w.B=0:=by exact_mod_cast e0
      have hD:=D03 hr.pos
      grind
     refine Cq.ext' ?_ ?_
     . show _ / w.norm=0; rw[hn]; simp[Rat.div_def]
     . show _ / w.norm=0; rw[hn]; simp[Rat.div_def]
   rw[this]; have:=P06; omega
 . refine(Rep.div w.canon.rep (z*⟨(w.A:Rat),-(w.B:Rat)⟩).canon.rep (Int.natAbs_of_nonneg hsq) h0).sz ?_ ?_ ?_
   . have:=q06 (z*⟨(w.A:Rat),-(w.B:Rat)⟩).A (w.D:Int); rw[Int.natAbs_natCast]at this; omega
   . have:=q06 (z*⟨(w.A:Rat),-(w.B:Rat)⟩).B (w.D:Int); rw[Int.natAbs_natCast]at this; omega
   . have h1:=g0d (z*⟨(w.A:Rat),-(w.B:Rat)⟩).D (w.A*w.A+w.B*w.B).natAbs
     have h2:=C0e (a:=w.A*w.A) (b:=w.B*w.B) (k:=2*S) (Nat.le_trans (q06 _ _) (by omega)) (Nat.le_trans (q06 _ _) (by omega))
     omega
def okN(z:Cq):Prop:=z.sz<=2^36
def atN(V:View)(n:NumV)(z:Cq):Prop:=N00 V n z
theorem atN.le{V V':View}(h:V.le V'){n:NumV}{z:Cq}(k:atN V n z):atN V' n z:=N00.le h k
theorem elN{V:View}{x:List Value}{z:Cq}(h:numC V x z):∃n:NumV,x=n.val.cells.toList/\atN V n z:=h
theorem X0t{V:View}{n:NumV}{z:Cq}(h:atN V n z):numC V n.val.cells.toList z:=⟨n,rfl,h⟩
theorem lenN(n:NumV):n.val.cells.toList.length=5:=rfl
theorem oneN{V:View}{x:List Value}{z:Cq}(h:numC V x z):∀v∈x,Value.oneCell' v=true:=by
 obtain⟨n,e,_⟩:=h
 subst e
 intro v hv
 rw[T0q]at hv
 simp only[List.mem_cons,List.not_mem_nil,or_false]at hv
 rcases hv with rfl|rfl|rfl|rfl|rfl<;>rfl
theorem zeroN(V:View):numC V [Value.bool false,Value.slice none 0 0,Value.bool false,Value.slice none 0 0,Value.slice none 0 0] Cq.zero:=⟨_,rfl,N00.zero V⟩
theorem i0x{V:View}{n:NumV}{z:Cq}(h:atN V n z)(hz:okN z):a00 prog i0e #[n.val] V λv _=>v = .bool (numO.clr z):=u0a h (by unfold okN at hz; omega)
theorem divN{V:View}{n k:NumV}{z w:Cq}(h:atN V n z)(h':atN V k w)(hz:okN z)(hw:okN w)(hc:numO.clr w=true) :
 a00 prog b0j #[n.val,k.val] V λv V'=>∃r:NumV,v = .tuple #[r.val,.int .i64 0]/\atN V' r (numO.div z w):=by
 refine(J09 h h' hz hw).mono λv V' _ ⟨r,e,hv,_,h2⟩ => ?_
 obtain⟨g1,g2⟩:=h2 (d0i.1 hc)
 subst g1
 exact⟨r,hv,g2⟩
theorem Z0r{x y u:Cq}(hx:okN x)(hy:okN y)(hu:okN u):(Cq.div x y).sz<=4*2^36+8/\(Cq.div x y*u).sz<=5*2^36+9:=by
 have h1:=C0k hx hy
 have h2:=y03 (Cq.div x y) u
 unfold okN at hu
 omega
theorem K0x{V:View}{n k:NumV}{x y u:Cq}(h:atN V n (numO.div x y))(h':atN V k u)(hx:okN x)(hy:okN y)(hu:okN u) :
 a00 prog j0e #[n.val,k.val] V λv V'=>∃r:NumV,v=r.val/\atN V' r (numO.mul (numO.div x y) u):=by
 have hs:=Z0r hx hy hu
 exact p03 (z:=Cq.div x y) (w:=u) h h' (by omega) (by unfold okN at hu; omega)
theorem L0x{V:View}{n k:NumV}{z x y u:Cq}(h:atN V n z)(h':atN V k (numO.mul (numO.div x y) u))(hz:okN z)(hx:okN x)(hy:okN y)(hu:okN u) :
 a00 prog k0e #[n.val,k.val] V λv V'=>∃r:NumV,v=r.val/\atN V' r (numO.sub z (numO.mul (numO.div x y) u)):=by
 have hs:=Z0r hx hy hu
 exact f06 (z:=z) (w:=Cq.div x y*u) h h' (by unfold okN at hz; omega) (by omega)
theorem mulN{V:View}{n k:NumV}{x y:Cq}(h:atN V n x)(h':atN V k y)(hx:okN x)(hy:okN y) :
 a00 prog j0e #[n.val,k.val] V λv V'=>∃r:NumV,v=r.val/\atN V' r (numO.mul x y) :=
 p03 (z:=x) (w:=y) h h' (by unfold okN at hx; omega) (by unfold okN at hy; omega)
theorem subN{V:View}{n k:NumV}{x y z:Cq}(h:atN V n x)(h':atN V k (numO.mul y z))(hx:okN x)(hy:okN y)(hz:okN z) :
 a00 prog k0e #[n.val,k.val] V λv V'=>∃r:NumV,v=r.val/\atN V' r (numO.sub x (numO.mul y z)):=by
 have:=y03 y z
 unfold okN at hx hy hz
 exact f06 (z:=x) (w:=y*z) h h' (by omega) (by omega)
theorem D0d{V:View}{s:Sl}{p:Option Addr}{k:Nat}(hp:V.load p=some (.int .i64 (k:Int))) :
 a00 prog a04 #[s.v,.pointer p] V λv _=>v = .bool (decide (s.len≠k)):=by
 refine G07 s p V _ ⟨_,hp,?_⟩
 congr 1
 by_cases e:s.len=k
 . subst e; simp
 . simp[e]; omega
theorem O0b{V:View}{p:Sl}{rows:List (List Cq)}(h:A04 5 numC V p rows)(hn:rows.length<=2^40)(q:Fn1){k:Nat}(hp:V.load q.p0=some (.int .i64 (k:Int))) :
 a00 prog z04 #[p.v,q.val a04] V λv _=>∃r:Int,v = .int .i64 r/\(0<=r↔∃row,row∈rows/\row.length≠k):=by
 have hl:p.len=rows.length:=h.len
 refine W01 p q V _ (λ_ x _=>∃t:Nat,x.t8=t/\t<=rows.length/\∀row,row∈rows.take t->row.length=k) (λ_ x _=>rows.length-x.t8.toNat) ⟨⟨0,rfl,by omega,by simp⟩,?_⟩
 rintro⟨t⟩ V1 l1 ⟨t',ht,htn,hi⟩
 dsimp only at ht ⊢
 subst ht
 refine⟨λhlt => ?_,λhge => ?_⟩
 . simp only[decide_eq_true_eq]at hlt
   have hk:t'<rows.length:=by omega
   obtain⟨g1,s,g2,g3⟩:=(h.le numC.le l1).row (t:=(t':Int)) (by omega) (row:=rows[t']) (by simp)
   refine⟨g1,s,g2,(D0d (q03 l1 hp)).mono λv V2 l2 hv=>⟨_,hv,λhr=>⟨_,rfl,?_⟩,λhr => ?_⟩⟩
   . have hne:=of_decide_eq_true hr
     rw[g3.len]at hne
     exact⟨λ_=>⟨rows[t'],List.getElem_mem hk,hne⟩,λ_=>by omega⟩
   . have he:s.len=k:=by simpa using hr
     rw[g3.len]at he
     rw[i64w (by omega) (by omega)]
     refine⟨⟨t'+1,by omega,by omega,λrow hrow => ?_⟩,by omega⟩
     rw[List.take_add_one,List.getElem?_eq_getElem hk]at hrow
     simp only[Option.toList_some,List.mem_append,List.mem_singleton]at hrow
     rcases hrow with hrow|hrow
     . exact hi row hrow
     . subst hrow; exact he
 . simp only[decide_eq_false_iff_not]at hge
   have e:t'=rows.length:=by omega
   subst e
   rw[List.take_length]at hi
   exact⟨-1,rfl,λh=>absurd h (by omega),λ⟨row,h1,h2⟩=>absurd (hi row h1) h2⟩
theorem K09{V:View}{p:Sl}{rows:List (List Cq)}(h:A04 5 numC V p rows)(hn:rows.length<=2^40)(q:Fn1){k:Nat}(hp:V.load q.p0=some (.int .i64 (k:Int))) :
 a00 prog j04 #[p.v,q.val a04] V λv _=>v = .bool (rows.any λrow=>decide (row.length≠k)):=by
 refine F01 p q V _ ((O0b h hn q hp).mono λv V1 l1 ⟨r,hv,hr⟩=>⟨r,hv,?_⟩)
 congr 1
 rw[Bool.eq_iff_iff]
 simp only[ge_iff_le,decide_eq_true_eq,List.any_eq_true]
 exact hr
def s06(rows:List (List Cq)):Nat:=(rows.headD []).length
def X0e(rows:List (List Cq)):Bool:=rows.isEmpty||(decide (rows.length<=32)&&decide (s06 rows<=32) && !(rows.any λrow=>decide (row.length≠s06 rows)))
theorem w06{V:View}{p:Sl}{rows:List (List Cq)}(h:A04 5 numC V p rows)(hn:rows.length<=2^40) :
 a00 prog W08 #[p.v] V λv _=>v = .tuple #[.int .i64 (s06 rows:Int),.bool (X0e rows)]:=by
 have hl:p.len=rows.length:=h.len
 refine z08 p V _ ⟨λh0 => ?_,λh0 => ?_⟩
 . have e:rows=[]:=List.length_eq_zero_iff.1 (by simp at h0; omega)
   subst e; rfl
 . have hne:0<rows.length:=by simp at h0; omega
   obtain⟨row,rest,e⟩:∃row rest,rows=row::rest:=by
    cases rows with
    | nil=>simp at hne
    | cons a l=>exact⟨a,l,rfl⟩
   obtain⟨g1,s,g2,g3⟩:=h.row (t:=(0:Int)) (by omega) (row:=row) (by subst e; rfl)
   refine⟨g1,s,g2,λb1 V1 l1 hb1 => ?_⟩
   have hld:V1.load (some (Addr.mk b1 0 none))=some (.int .i64 (s.len:Int)):=by
    have:=M06 (j:=0) hb1
    simpa [Addr.add]using this
   have hs:s.len=s06 rows:=by subst e; exact g3.len
   rw[hs]at hld
   have hE:rows.isEmpty=false:=by subst e; rfl
   refine⟨_,hld,λh1=>⟨_,hld,λh2 => ?_,λh2 => ?_⟩,λh1 => ?_⟩
   . simp only[decide_eq_true_eq]at h1 h2
     refine(K09 (h.le numC.le l1) hn ⟨some (Addr.mk b1 0 none)⟩ hld).mono λv V2 l2 hv=>⟨_,hv,?_⟩
     have e1:decide (rows.length<=32)=true:=by simp; omega
     have e2:decide (s06 rows<=32)=true:=by simp; omega
     simp only[X0e,hE,e1,e2,Bool.false_or,Bool.true_and]
   . simp only[decide_eq_false_iff_not]at h2
     have e2:decide (s06 rows<=32)=false:=by simp; omega
     simp only[X0e,hE,e2,Bool.false_or,Bool.and_false,Bool.false_and]
   . simp only[decide_eq_false_iff_not]at h1
     have e1:decide (rows.length<=32)=false:=by simp; omega
     simp only[X0e,hE,e1,Bool.false_or,Bool.false_and]
theorem L09{V:View}{p:Sl}{rows:List (List Cq)}(h:A04 5 numC V p rows)(hn:rows.length<=2^40) :
 a00 prog u05 #[p.v] V λv _=>v = .bool (X0e rows&&decide (s06 rows=rows.length)):=by
 have hl:p.len=rows.length:=h.len
 refine f08 p V _ ((w06 h hn).mono λv V1 l1 hv=>⟨_,_,hv,λh1 => ?_,λh1 => ?_⟩)
 . rw[h1,Bool.true_and,hl]
   congr 1
   by_cases e:s06 rows=rows.length
   . simp[e]
   . simp[e]; omega
 . rw[h1,Bool.false_and]
theorem M0x{V:View}{o:List Value}{row:List Cq}(h:j01 5 numC V o row):∀v∈o,Value.oneCell' v=true:=by
 induction row generalizing o with
 | nil=>rw[show o=[]from h]; simp
 | cons z zs ih =>
   obtain⟨x,o',e,hx,hp,ht⟩:=h
   subst e
   intro v hv
   rw[List.mem_append]at hv
   rcases hv with hv|hv
   . exact oneN hp v hv
   . exact ih ht v hv
theorem P0b{m V:View}{s:Sl}{row:List Cq}{o:List Value}(hC:j01 5 numC V o row)(ho:has2 m V s.a o)(hl:s.len=row.length)(ha:s.a=none->row=[])(hb:row.length<=2^30) :
 k07 prog t05 #[s.v] m V λv m' V'=>∃(r:Sl) (b:Nat),v=r.v/\RowR 5 numC m' V' r b row/\(row≠[]->m b=none)/\(∀i,i≠b\/row=[]->m' i=m i):=by
 refine j05 m s V _ ⟨trivial,λh => ?_,λh b1 V1 l1 hf hb1 => ?_⟩
 . have e:=ha (by simpa using h)
   exact⟨⟨none,0,0⟩,0,rfl,⟨by rw[e]; rfl,Nat.le_refl _,λ_=>rfl,λh=>absurd e h⟩,λh=>absurd e h,λ_ _=>rfl⟩
 . have hol:=hC.length
   refine⟨[],o,⟨Nat.le_refl _,λh=>by simp at h⟩,.inl (by intro j v hj; simp at hj),by simp,e09 l1 ho,by rw[hol,hl],M0x hC,by unfold maxLen; omega,by omega,λh1 h2=>by omega,λa1 c1 m1 ha1 => ?_⟩
   have hC1:j01 5 numC V1 o row:=hC.imp (numC.le l1)
   obtain⟨b,hr,hb2,hm,hm2⟩:=Z0g hC1 rfl hl ha1
   exact⟨_,b,rfl,hr,hb2,λi hi=>by
    rcases hi with hi|hi
    . exact hm i hi
    . rw[hm2 hi]⟩
def x06(A:Nat->Nat->Cq)(w:Nat)(C:Nat->Nat->Cq):Nat->Nat->Cq:=λi k=>if k<w then A i k else C (k-w) i
theorem S0a{V:View}{p q:Sl}{n w u:Nat}{A C:Nat->Nat->Cq}(h:A04 5 numC V p (matL n w A))(hq:A04 5 numC V q (matL u n C))(hn:n<=2^20)(hw:w<=2^20)(hu:u<=2^20) :
 k07 prog k09 #[p.v,q.v] (λ_=>none:View) V λv m' V'=>∃r:Sl,v=r.v/\MatR 5 numC m' V' r n (w+u) (x06 A w C):=by
 have hl:p.len=n:=by have:=h.len; rw[Z00]at this; exact this
 have hql:q.len=u:=by have:=hq.len; rw[Z00]at this; exact this
 refine Z08 (λ_=>none) p q V _ (λ_ x V'=>∃t:Nat,x.t15=t/\t<=n/\x.o12.length=n/\i03 5 numC x.o0 V' x.o12 t (λi=>rowL (w+u) (x06 A w C i))) (λ_ x _=>n-x.t15.toNat)
  (λc x V'=>∃t k:Nat,c.t15=t/\t<n/\x.t27=k/\k<=u/\x.o12.length=n/\i03 5 numC x.o0 V' x.o12 (t+1) (λi=>if i=t then rowL (w+k) (x06 A w C i)else rowL (w+u) (x06 A w C i))) (λ_ x _=>u-x.t27.toNat) ?_
 rw[hl]
 refine⟨⟨by omega,by omega,by omega,by omega⟩,⟨0,rfl,by omega,by simp,H0m _ _ _ _⟩,?_⟩
 rintro⟨t15,o0,o12⟩ V1 l1 ⟨t,ht,htn,hlen,hR⟩
 dsimp only at ht hlen hR ⊢
 subst ht
 refine⟨λhlt => ?_,λhge => ?_⟩
 . simp only[decide_eq_true_eq]at hlt
   have hk:t<n:=by omega
   obtain⟨g1,s,g2,g3⟩:=(h.le numC.le l1).row (t:=(t:Int)) (by omega) (row:=rowL w (A t)) (by rw[Int.toNat_natCast]; exact Q04 hk A)
   rw[hl]at g1
   obtain⟨o,ho,hC⟩:=g3.cells
   refine⟨g1,s,.inr g2,?_⟩
   refine(P0b hC (.inr ho) g3.len (λe => ?_) (by rw[L00]; omega)).mono λv m1 V2 l2 _ ⟨r,b,hv,hr,hb,hm⟩=>⟨r,hv,⟨by omega,by omega⟩,by rw[hlen,Int.toNat_natCast]; omega,?_,?_⟩
   . by_cases e2:rowL w (A t)=[]
     . exact e2
     . have:=g3.some e2; rw[e]at this; simp at this
   . refine⟨t,0,rfl,hk,rfl,by omega,by simp[hlen],?_⟩
     have:=(hR.le numC.le l2).push (by omega) hr hb hm
     have e1:(0+Int.toNat (t:Int)*1)=t:=by omega
     rw[e1]
     refine this.congr λi hi => ?_
     by_cases e:i=t
     . subst e
       simp only[if_true,Nat.add_zero]
       exact P04 λk hk=>by simp[x06,hk]
     . simp[e]
   . rintro⟨t27,o0',o12'⟩ V3 l3 ⟨t',k,ht',htn',hk27,hku,hlen',hR'⟩
     dsimp only at ht' hk27 hlen' hR' ⊢
     have:t'=t:=by omega
     subst this
     subst hk27
     rw[hql]
     refine⟨λhlt2 => ?_,λhge2 => ?_⟩
     . simp only[decide_eq_true_eq]at hlt2
       have hku2:k<u:=by omega
       have lq:=View.le_trans l1 (View.le_trans l2 l3)
       obtain⟨q1,s2,q2,q3⟩:=(hq.le numC.le lq).row (t:=(k:Int)) (by omega) (row:=rowL n (C k)) (by rw[Int.toNat_natCast]; exact Q04 hku2 C)
       rw[hql]at q1
       obtain⟨s3,e3,r1,r2,r3,⟨o3,r4,r5,r6⟩,r7⟩:=hR'.row (i:=t') (by omega)
       obtain⟨c1,x,hx,hxl,hh,hs⟩:=B00.get q3 (t:=(t':Int)) (by omega) (z:=C k t') (by rw[Int.toNat_natCast]; exact O04 hk _)
       obtain⟨y,ey,hy⟩:=elN hx
       subst ey
       simp only[if_true]at r1 r6
       rw[L00]at r1
       refine⟨q1,s2,.inr q2,⟨by omega,by omega⟩,s3,by rw[Int.toNat_natCast,Nat.mul_one,Nat.zero_add]; exact e3,c1,y,.inr hh,hs,λb1 V4 l4 hf4 hb4 => ?_⟩
       have hnew:V4.has (some (Addr.mk b1 0 none)) y.val.cells.toList:=by
        refine x04 (cs:=y.val.cells.toList) (j:=0) hb4 (λi v hv=>by rw[Nat.zero_add]; exact hv) rfl
       refine⟨o3,_,⟨r2,r3⟩,e09 l4 r4,r5,.inr hnew,by rw[hxl],oneN (numC.le l4 _ _ hx),by unfold maxLen; omega,by omega,λ_ h2=>r7 1 (by omega) h2,λa1 c1 m2 ha=>⟨⟨by omega,by omega⟩,by rw[hlen',Int.toNat_natCast]; omega,?_⟩⟩
       have:=(hR'.le numC.le l4).app (i:=t') (by omega) e3 hxl (numC.le l4 _ _ hx) (o':=o3) (by simp only[if_true]; exact r6.imp (numC.le l4)) ha
       rw[i64w (by omega) (by omega)]
       refine⟨⟨t',k+1,rfl,htn',by omega,by omega,by simp[hlen'],?_⟩,by omega⟩
       have e1:(0+Int.toNat (t':Int)*1)=t':=by omega
       rw[e1]
       refine this.congr λi hi => ?_
       by_cases e:i=t'
       . subst e
         simp only[if_true]
         rw[show C k i=x06 A w C i (w+k)by unfold x06; rw[if_neg (by omega),Nat.add_sub_cancel_left],w09]; rfl
       . simp[e]
     . simp only[decide_eq_false_iff_not]at hge2
       have e:k=u:=by omega
       subst e
       rw[i64w (by omega) (by omega)]
       refine⟨⟨t'+1,by omega,by omega,hlen',hR'.congr λi hi => ?_⟩,by omega⟩
       by_cases e:i=t'<;>simp[e]
 . simp only[decide_eq_false_iff_not]at hge
   intro b3 hb3 hb4
   have e:t=n:=by omega
   subst e
   rw[Int.toNat_natCast]
   exact⟨_,rfl,hR.mat hlen hb3⟩
theorem b09{m V:View}{p:Sl}{n w:Nat}{A:Nat->Nat->Cq}(Q:Nat->Cq->Prop)(h:MatR 5 numC m V p n w A)(hn:n<=w)(hw:w<=2^20)
 (q1:∀c x,c<=n->Q c x->okN x) (q2:∀c x y z u,Q c x->Q c y->Q c z->Q c u->Q (c+1) (numO.sub x (numO.mul (numO.div y z) u))) (q3:∀c x,Q c x->Q (c+1) x) (hA:∀i j,i<n->j<w->Q 0 (A i j)) :
 k07 prog W07 #[p.v] m V λv m' V'=>v = .tuple #[.int .i64 ((elim numO n w A).2.1:Nat),.int .i64 (match (elim numO n w A).2.2 with|none => -1|some c=>(c:Int))]/\MatR 5 numC m' V' p n w (elim numO n w A).1:=by
 have hl:=h.len
 refine H07 m p V _
  (λ_ x V'=>∃(c s:Nat) (B:Nat->Nat->Cq),x.t13=c/\x.t4=s/\c<=n/\s<=c/\MatR 5 numC x.o0 V' p n w B/\b06 numO n w (n-c) c B s=elim numO n w A/\∀i j,i<n->j<w->Q c (B i j))
  (λ_ x _=>n-x.t13.toNat)
  (λc x V'=>∃(k s:Nat) (B:Nat->Nat->Cq),c.t13=k/\c.t4=s/\k<n/\s<=k/\MatR 5 numC c.o0 V' p n w B/\b06 numO n w (n-k) k B s=elim numO n w A/\(∀i j,i<n->j<w->Q k (B i j))/\x.t6=(pivF numO B k n:Nat))
  (λc x V'=>∃(k s:Nat) (B:Nat->Nat->Cq) (t:Nat),c.t13=k/\c.t4=s/\k<n/\s<=k/\MatR 5 numC c.o0 V' p n w B/\b06 numO n w (n-k) k B s=elim numO n w A/\(∀i j,i<n->j<w->Q k (B i j))/\x.t6=t/\k<=t/\t<=n/\∀q,k<=q->q<t->numO.clr (B q k)=false)
  (λ_ x _=>n-x.t6.toNat)
  (λc x V'=>∃(k s:Nat) (B:Nat->Nat->Cq),c.t13=k/\x.t4=s/\k<n/\s<=k+1/\MatR 5 numC x.o0 V' p n w B/\b06 numO n w (n-(k+1)) (k+1) (colF numO w B k n) s=elim numO n w A/\(∀i j,i<n->j<w->Q k (B i j))/\numO.clr (B k k)=true)
  (λc x V'=>∃(k s:Nat) (B:Nat->Nat->Cq) (R:Nat),c.t13=k/\c.t4=s/\k<n/\s<=k+1/\x.t7=R/\k<R/\R<=n/\MatR 5 numC x.o0 V' p n w (colF numO w B k R)/\b06 numO n w (n-(k+1)) (k+1) (colF numO w B k n) s=elim numO n w A/\(∀i j,i<n->j<w->Q k (B i j))/\numO.clr (B k k)=true)
  (λ_ x _=>n-x.t7.toNat)
  (λc x V'=>∃(k s:Nat) (B:Nat->Nat->Cq) (R K:Nat),c.t13=k/\c.t4=s/\k<n/\s<=k+1/\c.t7=R/\k<R/\R<n/\x.t10=K/\k<K/\K<=w/\atN V' c.o8 (numO.div (B R k) (B k k)) /\
    MatR 5 numC x.o0 V' p n w (rowF numO (colF numO w B k R) k R (numO.div (B R k) (B k k)) K)/\b06 numO n w (n-(k+1)) (k+1) (colF numO w B k n) s=elim numO n w A/\(∀i j,i<n->j<w->Q k (B i j))/\numO.clr (B k k)=true)
  (λ_ x _=>w-x.t10.toNat) ?_
 rw[hl]
 refine⟨⟨0,0,A,rfl,rfl,by omega,by omega,h,by rw[Nat.sub_zero]; rfl,hA⟩,?_⟩
 rintro⟨t4,t13,o0⟩ V1 l1 ⟨c,s,B,e13,e4,hc,hs,hM,hE,hQ⟩
 dsimp only at e13 e4 hM ⊢
 subst e13; subst e4
 refine⟨λhlt=>⟨⟨⟨c,s,B,c,rfl,rfl,by simp at hlt; omega,hs,hM,hE,hQ,rfl,by omega,hc,λq h1 h2=>by omega⟩,?_⟩,?_⟩,λhge => ?_⟩
 ·
   rintro⟨t6⟩ V3 l3 ⟨k,s',B',t,e13,e4,hk,hs',hM',hE',hQ',e6,h1,h2,h3⟩
   dsimp only at e13 e4 e6 hM' ⊢
   obtain rfl:c=k:=by omega
   obtain rfl:s=s':=by omega
   subst e6
   refine⟨λhlt2 => ?_,λhge2 => ?_⟩
   . simp only[decide_eq_true_eq]at hlt2
     have ht:t<n:=by omega
     obtain⟨g1,sl,g2,g3,g4,g5,g6,g7,g8⟩:=hM'.row ht
     obtain⟨x,hx,hxl,hh,hsm⟩:=g7 c (by omega)
     obtain⟨y,ey,hy⟩:=elN hx
     subst ey
     refine⟨⟨by omega,by omega,g1⟩,sl,.inl (by rw[Int.toNat_natCast]; exact g2),⟨by omega,by omega,g5 (by omega)⟩,y,by rw[Int.toNat_natCast]; exact hh,by rw[Int.toNat_natCast]; exact hsm,?_⟩
     refine(i0x hy (q1 c _ (by omega) (hQ' t c ht (by omega)))).mono λv V4 l4 hv=>⟨_,hv,λhb => ?_,λhb => ?_⟩
     . rw[i64w (by omega) (by omega)]
       refine⟨⟨c,s,B',t+1,rfl,rfl,hk,hs',hM'.le numC.le l4,hE',hQ',by omega,by omega,by omega,λq hq1 hq2 => ?_⟩,by omega⟩
       by_cases e:q=t
       . subst e; simpa using hb
       . exact h3 q hq1 (by omega)
     . refine⟨c,s,B',rfl,rfl,hk,hs',hM'.le numC.le l4,hE',hQ',?_⟩
       rw[c0r numO B' h1 h2 h3 (λ_=>by simpa using hb)]
   . simp only[decide_eq_false_iff_not]at hge2
     have e:t=n:=by omega
     refine⟨c,s,B',rfl,rfl,hk,hs',hM',hE',hQ',?_⟩
     rw[c0r numO B' h1 h2 h3 (λh=>by omega)]
 ·
   rintro⟨t6⟩ V2 l2 ⟨k,s',B',e13,e4,hk,hs',hM',hE',hQ',e6⟩
   dsimp only at e13 e4 e6 hM' ⊢
   obtain rfl:c=k:=by omega
   obtain rfl:s=s':=by omega
   subst e6
   obtain⟨p1,p2,p3,p4⟩:=B09 numO B' (c:=c) (n:=n) (by omega)
   refine⟨λheq => ?_,λhne=>⟨⟨λhsw => ?_,λhns => ?_⟩,?_⟩⟩
   . have e:pivF numO B' c n=n:=by simp at heq; omega
     rw[<-hE',k0p numO n w hk B' s e]
     exact⟨rfl,hM'⟩
   . have hpn:pivF numO B' c n<n:=by simp at hne; omega
     have hpc:pivF numO B' c n≠c:=by simp at hsw; omega
     obtain⟨g1,sc,g2,_⟩:=hM'.row hk
     obtain⟨_,sp,k2,_⟩:=hM'.row hpn
     obtain⟨b1,c1,l1',u1,u2,u3,b2,c2,l2',u4,u5,u6,u7⟩:=hM'.swap (by omega) hk hpn g2 k2
     refine⟨⟨by omega,by omega,g1⟩,sc,.inl (by rw[Int.toNat_natCast]; exact g2),⟨by omega,by omega,g1⟩,sp,.inl (by rw[Int.toNat_natCast]; exact k2),⟨by omega,by omega,g1⟩,b1,c1,l1',by rw[Int.toNat_natCast]; exact u1,u2,u3,⟨by omega,by omega,g1⟩,b2,c2,l2',by rw[Int.toNat_natCast]; exact u4,u5,u6,?_⟩
     rw[f0n numO n w hk B' s (by omega),if_neg hpc]at hE'
     have ep:i08 B' c (pivF numO B' c n)=c0i B' c (pivF numO B' c n):=by unfold i08; rw[if_neg hpc]
     rw[i64w (by omega) (by omega)]
     refine⟨c,s+1,c0i B' c (pivF numO B' c n),rfl,by omega,hk,by omega,u7,by rw[<-ep]; exact hE',λi j hi hj => ?_,?_⟩
     . unfold c0i
       split
       . exact hQ' _ j hpn hj
       . split
         . exact hQ' _ j hk hj
         . exact hQ' i j hi hj
     . simp only[c0i,if_true]; exact p4 hpn
   . have hpc:pivF numO B' c n=c:=by simp at hns; omega
     have hpn:pivF numO B' c n<n:=by omega
     rw[f0n numO n w hk B' s (by omega),if_pos hpc]at hE'
     have ep:i08 B' c (pivF numO B' c n)=B':=by unfold i08; rw[if_pos hpc]
     rw[ep]at hE'
     exact⟨c,s,B',rfl,rfl,hk,by omega,hM',hE',hQ',by have:=p4 hpn; rw[hpc]at this; exact this⟩
   ·
     clear p1 p2 p3 p4 hE' hQ' hM'
     rintro⟨t4',o0'⟩ V5 l5 ⟨k,s2,B2,e13',e4',hk2,hs2,hM2,hE2,hQ2,hcl⟩
     dsimp only at e13' e4' hM2 ⊢
     obtain rfl:c=k:=by omega
     subst e4'
     refine⟨⟨c,s2,B2,c+1,rfl,rfl,hk,hs2,by rw[i64w (by omega) (by omega)]; omega,by omega,by omega,by rw[i0p]; exact hM2,hE2,hQ2,hcl⟩,?_⟩
     clear hM2 hE2 hQ2 hcl
     rintro⟨t7,o0''⟩ V6 l6 ⟨k,s3,B3,R,f13,f4,hk3,hs3,f7,hkR,hRn,hM3,hE3,hQ3,hcl3⟩
     dsimp only at f13 f4 f7 hM3 ⊢
     obtain rfl:c=k:=by omega
     obtain rfl:s2=s3:=by omega
     subst f7
     refine⟨λhlt2 => ?_,λhge2 => ?_⟩
     . simp only[decide_eq_true_eq]at hlt2
       have hR:R<n:=by omega
       obtain⟨g1,sr,g2,g3,g4,g5,g6,g7,g8⟩:=hM3.row hR
       obtain⟨_,sc,k2,k3,k4,k5,k6,k7,k8⟩:=hM3.row hk
       obtain⟨x,hx,hxl,hh,hsm⟩:=g7 c (by omega)
       obtain⟨x',hx',hxl',hh',hsm'⟩:=k7 c (by omega)
       rw[e0n]at hx
       rw[d0n]at hx'
       obtain⟨y,ey,hy⟩:=elN hx
       obtain⟨y',ey',hy'⟩:=elN hx'
       subst ey; subst ey'
       refine⟨⟨by omega,by omega,g1⟩,sr,.inl (by rw[Int.toNat_natCast]; exact g2),⟨by omega,by omega,g5 (by omega)⟩,y,by rw[Int.toNat_natCast]; exact hh,by rw[Int.toNat_natCast]; exact hsm,
        ⟨by omega,by omega,g1⟩,sc,.inl (by rw[Int.toNat_natCast]; exact k2),⟨by omega,by omega,k5 (by omega)⟩,y',by rw[Int.toNat_natCast]; exact hh',by rw[Int.toNat_natCast]; exact hsm',?_⟩
       have qR:=hQ3 R c hR (by omega)
       have qc:=hQ3 c c hk (by omega)
       refine(divN hy hy' (q1 c _ (by omega) qR) (q1 c _ (by omega) qc) hcl3).mono λv V7 l7 ⟨r2,hv,hr2⟩=>⟨r2,0,hv,⟨c,s2,B3,R,c+1,rfl,rfl,hk,hs3,rfl,hkR,hR,by rw[i64w (by omega) (by omega)]; omega,by omega,by omega,hr2,?_,hE3,hQ3,hcl3⟩,?_⟩
       . rw[j0p]; exact hM3.le numC.le l7
       . clear hM3 g1 g2 g3 g4 g5 g6 g7 g8 k2 k3 k4 k5 k6 k7 k8 hh hsm hh' hsm' hx hx' hy hy'
         rintro⟨t10,o0'''⟩ V8 l8 ⟨k,s4,B4,R',K,d13,d4,hk4,hs4,d7,hkR4,hR4,d10,hkK,hKw,hf,hM4,hE4,hQ4,hcl4⟩
         dsimp only at d13 d4 d7 d10 hf hM4 ⊢
         obtain rfl:c=k:=by omega
         obtain rfl:s2=s4:=by omega
         obtain rfl:R=R':=by omega
         subst d10
         obtain⟨g1,sr,g2,g3,g4,g5,g6,g7,g8⟩:=hM4.row hR
         refine⟨⟨by omega,by omega,g1⟩,sr,.inl (by rw[Int.toNat_natCast]; exact g2),λhlt3 => ?_,λhge3 => ?_⟩
         . simp only[decide_eq_true_eq]at hlt3
           have hK:K<w:=by omega
           obtain⟨_,sc,k2,k3,k4,k5,k6,k7,k8⟩:=hM4.row hk
           obtain⟨x,hx,hxl,hh,hsm⟩:=g7 K hK
           obtain⟨x',hx',hxl',hh',hsm'⟩:=k7 K hK
           rw[Q0w,e0n]at hx
           rw[P0w numO _ _ _ (by omega),d0n]at hx'
           obtain⟨y,ey,hy⟩:=elN hx
           obtain⟨y',ey',hy'⟩:=elN hx'
           subst ey; subst ey'
           have qR:=hQ4 R c hR (by omega)
           have qc:=hQ4 c c hk (by omega)
           have qRK:=hQ4 R K hR hK
           have qcK:=hQ4 c K hk hK
           refine⟨⟨by omega,by omega,g1⟩,sr,.inl (by rw[Int.toNat_natCast]; exact g2),⟨by omega,by omega,g1⟩,sr,.inl (by rw[Int.toNat_natCast]; exact g2),⟨by omega,by omega,g5 (by omega)⟩,y,by rw[Int.toNat_natCast]; exact hh,by rw[Int.toNat_natCast]; exact hsm,
            ⟨by omega,by omega,g1⟩,sc,.inl (by rw[Int.toNat_natCast]; exact k2),⟨by omega,by omega,k5 (by omega)⟩,y',by rw[Int.toNat_natCast]; exact hh',by rw[Int.toNat_natCast]; exact hsm',?_⟩
           refine(K0x hf hy' (q1 c _ (by omega) qR) (q1 c _ (by omega) qc) (q1 c _ (by omega) qcK)).mono λv V9 l9 ⟨r4,hv,hr4⟩=>⟨r4,hv,?_⟩
           refine(L0x (atN.le l9 hy) hr4 (q1 c _ (by omega) qRK) (q1 c _ (by omega) qR) (q1 c _ (by omega) qc) (q1 c _ (by omega) qcK)).mono λv V10 l10 ⟨r5,hv,hr5⟩=>⟨r5,hv,⟨by omega,by omega,g5 (by omega)⟩,?_⟩
           obtain⟨v1,v2,b3,c3,l3,v3,v4,v5,v6⟩:=(hM4.le numC.le (View.le_trans l9 l10)).put hR hK (lenN r5) (X0t hr5) g2
           refine⟨b3,c3,l3,by rw[Int.toNat_natCast]; exact v3,v4,v5,?_⟩
           rw[i64w (by omega) (by omega)]
           refine⟨⟨c,s2,B4,R,K+1,rfl,rfl,hk,hs4,rfl,hkR,hR,by omega,by omega,by omega,atN.le (View.le_trans l9 l10) hf,?_,hE4,hQ4,hcl4⟩,by omega⟩
           have e:=d0r numO (colF numO w B4 c R) (c:=c) (R:=R) (numO.div (B4 R c) (B4 c c)) hkK
           rw[<-e,e0n,d0n]; exact v6
         . simp only[decide_eq_false_iff_not]at hge3
           have e:K=w:=by omega
           subst e
           rw[i64w (by omega) (by omega)]
           rw[n0t numO K B4 hkR]at hM4
           exact⟨⟨c,s2,B4,R+1,rfl,rfl,hk,hs4,by omega,by omega,by omega,hM4,hE4,hQ4,hcl4⟩,by omega⟩
     . simp only[decide_eq_false_iff_not]at hge2
       have e:R=n:=by omega
       subst e
       rw[i64w (by omega) (by omega)]
       refine⟨⟨c+1,s2,colF numO w B3 c R,by omega,rfl,by omega,hs3,hM3,hE3,λi j hi hj => ?_⟩,by omega⟩
       unfold colF
       split
       . exact q2 c _ _ _ _ (hQ3 i j hi hj) (hQ3 i c hi (by omega)) (hQ3 c c hk (by omega)) (hQ3 c j hk hj)
       . exact q3 c _ (hQ3 i j hi hj)
 . simp only[decide_eq_false_iff_not]at hge
   have e:c=n:=by omega
   subst e
   rw[e0r]at hE
   rw[<-hE]
   exact⟨rfl,hM⟩
theorem Y0e{n w:Nat}(A:Nat->Nat->Cq)(hn:n<=32)(hw:w<=32):X0e (matL n w A)=true/\(0<n->s06 (matL n w A)=w)/\(n=0->s06 (matL n w A)=0):=by
 have hc:0<n->s06 (matL n w A)=w:=by
  intro h
  unfold s06 matL
  obtain⟨m,rfl⟩:∃m,n=m+1:=⟨n-1,by omega⟩
  rw[List.range_succ_eq_map]
  simp[L00]
 refine⟨?_,hc,λh=>by subst h; rfl⟩
 unfold X0e
 rcases Nat.eq_zero_or_pos n with h|h
 . subst h; rfl
 . rw[hc h,Z00]
   have e:((matL n w A).any λrow=>decide (row.length≠w))=false:=by
    rw[List.any_eq_false]
    intro row hrow
    unfold matL at hrow
    obtain⟨i,_,rfl⟩:=List.mem_map.1 hrow
    simp[L00]
   rw[e]
   simp[hn,hw]
theorem j0x{V:View}{p:Sl}{n:Nat}{A:Nat->Nat->Cq}(h:A04 5 numC V p (matL n n A))(hn:n<=32):a00 prog u05 #[p.v] V λv _=>v = .bool true:=by
 refine(L09 h (by rw[Z00]; omega)).mono λv V1 _ hv => ?_
 obtain⟨h1,h2,h3⟩:=Y0e A hn hn
 rw[hv,h1,Z00]
 rcases Nat.eq_zero_or_pos n with e|e
 . rw[h3 e,e]; rfl
 . rw[h2 e]; simp
structure P0v (n:Nat) (Q:Cq->Prop) (qs:Nat->Nat->Cq->Prop) (qx:Nat->Cq->Prop):Prop where
 r0:∀j x,j<n->Q x->qs j 0 x
 r1:∀j i s a x,j<n->i<j->qs j i s->Q a->qx j x->qs j (i+1) (numO.sub s (numO.mul a x))
 r2:∀j s a,j<n->qs j j s->Q a->qx (j+1) (numO.div s a)
 r3:∀j x,j<n->qx j x->qx (j+1) x
 k1:∀x,Q x->okN x
 k2:∀j i s,j<n->i<=j->qs j i s->okN s
 k3:∀j x,j<=n->qx j x->okN x
theorem Q0b{V:View}{p q:Sl}{n:Nat}{A:Nat->Nat->Cq}{b:Nat->Cq}(h:A04 5 numC V p (matL n n A))(hb:B00 5 numC V q (rowL n b))(hn:n<=32)
 (Q:Nat->Cq->Prop) (q1:∀c x,c<=n->Q c x->okN x) (q2:∀c x y z u,Q c x->Q c y->Q c z->Q c u->Q (c+1) (numO.sub x (numO.mul (numO.div y z) u))) (q3:∀c x,Q c x->Q (c+1) x)
 (hA:∀i j,i<n->j<n->Q 0 (A i j)) (hB:∀i,i<n->Q 0 (b i)) (qs:Nat->Nat->Cq->Prop) (qx:Nat->Cq->Prop) (hk:P0v n (Q n) qs qx) :
 a00 prog u06 #[p.v,q.v] V λv V'=>∃r:Sl,match (elim numO n (n+1) (x06 A n λ_ i=>b i)).2.2 with
  | none=>v = .tuple #[r.v,.int .i64 0]/\B00 5 numC V' r (rowL n (j08 numO Cq.zero (elim numO n (n+1) (x06 A n λ_ i=>b i)).1 n n))
  | some _=>v = .tuple #[r.v,.int .i64 6]/\r=⟨none,0,0⟩:=by
 have hpl:p.len=n:=by have:=h.len; rw[Z00]at this; exact this
 have hql:q.len=n:=by have:=hb.len; rw[L00]at this; exact this
 let W:=x06 A n λ_ i=>b i
 let B:=(elim numO n (n+1) W).1
 have hWQ:∀i j,i<n->j<n+1->Q 0 (W i j):=by
  intro i j hi hj
  show Q 0 (if j<n then A i j else b i)
  split
  . exact hA i j hi (by assumption)
  . exact hB i hi
 have hBQ:∀i j,i<n->j<n+1->Q n (B i j):=G0e numO Q n (n+1) q2 q3 n 0 W 0 (by omega) (by omega) hWQ
 refine o09 p q V _ (λ_ _ _=>True)
  (λ_ x V'=>∃j:Nat,x.t10=(n:Int)-1-j/\j<=n/\j01 5 numC V' x.o37 (rowL n (j08 numO Cq.zero B n j))/\∀i,n-j<=i->i<n->qx j (j08 numO Cq.zero B n j i))
  (λ_ x _=>(x.t10+1).toNat)
  (λc x V'=>∃j i:Nat,c.t10=(n:Int)-1-j/\j<n/\x.t12=(n:Int)-j+i/\i<=j/\j01 5 numC V' x.o37 (rowL n (j08 numO Cq.zero B n j))/\(∀i,n-j<=i->i<n->qx j (j08 numO Cq.zero B n j i)) /\
    atN V' x.o11 (b0r numO B (j08 numO Cq.zero B n j) (n-(j+1)) n i)/\qs j i (b0r numO B (j08 numO Cq.zero B n j) (n-(j+1)) n i))
  (λ_ x _=>n-x.t12.toNat) ?_
 rw[hpl,hql]
 refine⟨(j0x h hn).mono λv V2 l2 hv=>⟨true,hv,λhf=>absurd hf (by simp),λ_=>⟨λhf=>absurd hf (by simp),λ_=>trivial⟩⟩,?_⟩
 rintro⟨u⟩ V1 l1 -
 intro b3 V5 l5 _ hb3
 have hmore:A04 5 numC V5 ⟨some (Addr.mk b3 0 none),1,1⟩ (matL 1 n λ_ i=>b i):=by
  have hb5:B00 5 numC V5 q (rowL n b):=hb.le (numC.le (View.le_trans l1 l5)) (View.le_trans l1 l5)
  refine B00.of_block (o:=[q.v]) (o':=[]) (b:=b3) (λ_=>by simpa using hb3) ?_ (by rw[Z00]) (Nat.le_refl _) (λ_=>rfl)
  exact⟨[q.v],[],rfl,rfl,⟨q,rfl,hb5⟩,rfl⟩
 refine(S0a (h.le numC.le (View.le_trans l1 l5)) hmore (by omega) (by omega) (by omega)).mono λv m1 V6 l6 _ ⟨r2,hv,hM⟩=>⟨r2,hv,?_⟩
 refine(b09 Q hM (by omega) (by omega) q1 q2 q3 hWQ).mono λv m2 V7 l7 _ ⟨hv,hM2⟩=>⟨_,_,hv,by decide,λV8 l8 hpub => ?_⟩
 have hRB:A04 5 numC V8 r2 (matL n (n+1) B):=hM2.known (numC.le l8) hpub
 have hr2:r2.len=n:=by have:=hRB.len; rw[Z00]at this; exact this
 cases hstop:(elim numO n (n+1) W).2.2 with
 | some c =>
   exact⟨λ_=>⟨⟨none,0,0⟩,rfl,rfl⟩,λhf=>absurd hf (by simp)⟩
 | none =>
   have hdiag:=z0c numO n (n+1) n 0 W 0 (by omega) (λi hi=>absurd hi (by omega)) hstop
   refine⟨λhf=>absurd hf (by simp),λ_ => ?_⟩
   refine⟨⟨by omega,by omega,by omega,by omega⟩,⟨0,by rw[i64w (by omega) (by omega)]; show(n:Int)-1=_; omega,by omega,?_,λi h1 h2=>by omega⟩,?_⟩
   . have:=j01.replicate (sz:=5) (P:=numC) (V:=V8) rfl (zeroN V8) n
     rw[Int.toNat_natCast]
     have e:rowL n (j08 numO Cq.zero B n 0)=List.replicate n Cq.zero:=w0c n Cq.zero
     rw[e]; exact this
   rintro⟨t10,o37⟩ V9 l9 ⟨j,e10,hj,hC,hx⟩
   dsimp only at e10 hC ⊢
   refine⟨λhge => ?_,λhlt => ?_⟩
   . have hjn:j<n:=by simp at hge; omega
     have ec:t10.toNat=n-(j+1):=by omega
     obtain⟨g1,s1,g2,g3⟩:=(hRB.le numC.le l9).row (t:=t10) (by omega) (row:=rowL (n+1) (B (n-(j+1)))) (by rw[ec]; exact Q04 (by omega) B)
     obtain⟨c1,x,hxx,hxl,hh,hs⟩:=B00.get g3 (t:=(n:Int)) (by omega) (z:=B (n-(j+1)) n) (by rw[Int.toNat_natCast]; exact O04 (by omega) _)
     obtain⟨y,ey,hy⟩:=elN hxx
     subst ey
     refine⟨g1,s1,g2,c1,y,hh,hs,⟨j,0,e10,hjn,by rw[i64w (by omega) (by omega)]; omega,by omega,hC,hx,hy,hk.r0 j _ hjn (hBQ _ _ (by omega) (by omega))⟩,?_⟩
     clear hh hs hxx hxl g2 g3 c1
     rintro⟨t12,o11,o37'⟩ V10 l10 ⟨j',i,e10',hj',e12,hi,hC',hx',hS,hqS⟩
     dsimp only at e10' e12 hC' hS ⊢
     obtain rfl:j=j':=by omega
     obtain⟨g1,s1,g2,g3⟩:=(hRB.le numC.le (View.le_trans l9 l10)).row (t:=t10) (by omega) (row:=rowL (n+1) (B (n-(j+1)))) (by rw[ec]; exact Q04 (by omega) B)
     refine⟨λhlt2 => ?_,λhge2 => ?_⟩
     . have hij:i<j:=by simp at hlt2; omega
       have ek:t12.toNat=n-(j+1)+1+i:=by omega
       obtain⟨c1,x,hxx,hxl,hh,hs⟩:=B00.get g3 (t:=t12) (by omega) (z:=B (n-(j+1)) (n-(j+1)+1+i)) (by rw[ek]; exact O04 (by omega) _)
       obtain⟨y1,ey,hy1⟩:=elN hxx
       subst ey
       obtain⟨x',hx2,hxl2,hg⟩:=hC'.at (i:=t12.toNat) (z:=j08 numO Cq.zero B n j (n-(j+1)+1+i)) (by rw[ek]; exact O04 (by omega) _)
       obtain⟨y2,ey2,hy2⟩:=elN hx2
       subst ey2
       have qa:=hBQ (n-(j+1)) (n-(j+1)+1+i) (by omega) (by omega)
       have qX:=hx' (n-(j+1)+1+i) (by omega) (by omega)
       have okx:=hk.k3 j _ (by omega) qX
       refine⟨g1,s1,g2,c1,y1,hh,hs,⟨by omega,by omega⟩,y2,hg,?_⟩
       refine(mulN hy1 hy2 (hk.k1 _ qa) okx).mono λv V11 l11 ⟨r5,hv,h5⟩=>⟨r5,hv,?_⟩
       refine(subN (atN.le l11 hS) h5 (hk.k2 j i _ hjn (by omega) hqS) (hk.k1 _ qa) okx).mono λv V12 l12 ⟨r6,hv,h6⟩=>⟨r6,hv,?_⟩
       rw[i64w (by omega) (by omega)]
       exact⟨⟨j,i+1,e10,hjn,by omega,by omega,hC'.imp (numC.le (View.le_trans l11 l12)),hx',h6,hk.r1 j i _ _ _ hjn hij hqS qa qX⟩,by omega⟩
     . have hij:i=j:=by simp at hge2; omega
       subst hij
       obtain⟨c1,x,hxx,hxl,hh,hs⟩:=B00.get g3 (t:=t10) (by omega) (z:=B (n-(i+1)) (n-(i+1))) (by rw[ec]; exact O04 (by omega) _)
       obtain⟨y1,ey,hy1⟩:=elN hxx
       subst ey
       have qa:=hBQ (n-(i+1)) (n-(i+1)) (by omega) (by omega)
       refine⟨g1,s1,g2,c1,y1,hh,hs,?_⟩
       refine(divN hS hy1 (hk.k2 i i _ hjn (Nat.le_refl _) hqS) (hk.k1 _ qa) (hdiag _ (by omega))).mono λv V13 l13 ⟨r7,hv,h7⟩=>⟨r7,0,hv,⟨by omega,by omega⟩,?_,?_⟩
       . rw[hC'.length,L00,ec]
         have e2:(n-(i+1))*5+5=(n-(i+1)+1)*5:=by rw[Nat.add_mul,Nat.one_mul]
         rw[Nat.zero_add,e2]
         exact Nat.mul_le_mul_right _ (by omega)
       . rw[i64w (by omega) (by omega)]
         have hset:=(hC'.imp (numC.le l13)).set0 (i:=n-(i+1)) (by rw[L00]; omega) (lenN r7) (X0t h7)
         rw[J0d]at hset
         refine⟨⟨i+1,by omega,by omega,by rw[ec]; exact hset,λk h1 h2 => ?_⟩,by omega⟩
         simp only[j08]
         by_cases e:k=n-(i+1)
         . rw[if_pos e]; exact hk.r2 i _ _ hjn hqS qa
         . rw[if_neg e]; exact hk.r3 i _ hjn (hx' k (by omega) h2)
   . have hjn:j=n:=by simp at hlt; omega
     subst hjn
     intro b5 V14 l14 hb5
     rw[Int.toNat_natCast]
     refine⟨⟨some (Addr.mk b5 0 none),j,j⟩,rfl,?_⟩
     exact M05 hb5 (hC.imp (numC.le l14)) (by rw[L00])
def Xb(T:Nat):Nat->Nat
 | 0=>0
 | j+1=>max (Xb T j) (4*(T+j*(T+Xb T j+2))+8)
theorem Q0v{T:Nat}:∀ {j n:Nat},j<=n->Xb T j<=Xb T n
 | j, 0, h => by have : j = 0 := by omega
                 subst this; exact Nat.le_refl _
 | j,n+1,h=>by
   by_cases e:j=n+1
   . subst e; exact Nat.le_refl _
   . exact Nat.le_trans (Q0v (j:=j) (n:=n) (by omega)) (Nat.le_max_left _ _)
theorem Y0t{n T:Nat}(h:T+n*(T+Xb T n+2)<=2^36)(hX:Xb T n<=2^36) :
 P0v n (λz=>z.sz<=T) (λj i s=>s.sz<=T+i*(T+Xb T j+2)) (λj x=>x.sz<=Xb T j):=by
 refine⟨λj x _ hx=>by rw[Nat.zero_mul]; exact hx,λj i s a x hj hi hs ha hx => ?_,λj s a hj hs ha => ?_,λj x _ hx=>Nat.le_trans hx (Nat.le_max_left _ _),λx hx => ?_,λj i s hj hi hs => ?_,λj x hj hx => ?_⟩
 . have h1:=y03 a x
   have h2:=j07 s (a*x)
   show(s-a*x).sz<=_
   rw[Nat.add_mul,Nat.one_mul]; omega
 . have hd:(s.div a).sz<=4*(T+j*(T+Xb T j+2))+8:=C0k hs (by
     have:0<=j*(T+Xb T j+2):=Nat.zero_le _
     omega)
   exact Nat.le_trans hd (Nat.le_max_right _ _)
 . unfold okN; omega
 . have h1:=Q0v (T:=T) (j:=j) (n:=n) (by omega)
   have h2:i*(T+Xb T j+2)<=n*(T+Xb T n+2):=Nat.mul_le_mul (by omega) (by omega)
   unfold okN; omega
 . have h1:=Q0v (T:=T) (j:=j) (n:=n) hj
   unfold okN; omega
def qN(S:Nat)(c:Nat)(z:Cq):Prop:=z.sz+2<=(S+2)*6^c
theorem qN_2{S:Nat}(c:Nat)(x y z u:Cq)(hx:qN S c x)(hy:qN S c y)(hz:qN S c z)(hu:qN S c u):qN S (c+1) (numO.sub x (numO.mul (numO.div y z) u)):=by
 unfold qN at *
 rw[Nat.pow_succ]
 have e:(S+2)*(6^c*6)=((S+2)*6^c)*6:=by rw[Nat.mul_assoc]
 rw[e]
 generalize (S+2)*6^c=T at *
 have h1:(y.div z).sz<=4*(T-2)+8:=C0k (by omega) (by omega)
 have h2:=y03 (y.div z) u
 have h3:=j07 x (y.div z*u)
 show(x-y.div z*u).sz+2<=_
 omega
theorem qN_3{S:Nat}(c:Nat)(x:Cq)(hx:qN S c x):qN S (c+1) x:=by
 unfold qN at *
 rw[Nat.pow_succ]
 have e:(S+2)*(6^c*6)=((S+2)*6^c)*6:=by rw[Nat.mul_assoc]
 omega
theorem qN_1{S n:Nat}(h:(S+2)*6^n<=2^36)(c:Nat)(x:Cq)(hc:c<=n)(hx:qN S c x):okN x:=by
 unfold qN at hx
 have:(S+2)*6^c<=(S+2)*6^n:=Nat.mul_le_mul_left _ (Nat.pow_le_pow_right (by omega) hc)
 unfold okN; omega
def augN(n:Nat)(A:Nat->Nat->Cq)(b:Nat->Cq):Nat->Nat->Cq:=x06 A n λ_ i=>b i
theorem w0m{V:View}{p q:Sl}{n:Nat}{A:Nat->Nat->Cq}{b:Nat->Cq}(S:Nat)(h:A04 5 numC V p (matL n n A))(hb:g08 V q (rowL n b))(hn:n<=32)(hA:∀i j,i<n->j<n->(A i j).sz<=S)(hB:∀i,i<n->(b i).sz<=S)
 (hS:(S+2)*6^n+n*((S+2)*6^n+Xb ((S+2)*6^n) n+2)<=2^36) (hX:Xb ((S+2)*6^n) n<=2^36) :
 a00 prog u06 #[p.v,q.v] V λv V'=>∃r:Sl,match (elim numO n (n+1) (augN n A b)).2.2 with
  | none=>v = .tuple #[r.v,.int .i64 0]/\g08 V' r (rowL n (j08 numO Cq.zero (elim numO n (n+1) (augN n A b)).1 n n))/\∀i,i<n->(j08 numO Cq.zero (elim numO n (n+1) (augN n A b)).1 n n i).sz<=Xb ((S+2)*6^n) n
  | some _=>v = .tuple #[r.v,.int .i64 6]/\r=⟨none,0,0⟩:=by
 have q0:∀ {z:Cq},z.sz<=S->qN S 0 z:=λhz=>by unfold qN; rw[Nat.pow_zero]; omega
 have qT:∀ {z:Cq},qN S n z->z.sz<=(S+2)*6^n:=λhz=>by unfold qN at hz; omega
 have hk:=Y0t (T:=(S+2)*6^n) hS hX
 have hk':P0v n (qN S n) (λj i s=>s.sz<=(S+2)*6^n+i*((S+2)*6^n+Xb ((S+2)*6^n) j+2)) (λj x=>x.sz<=Xb ((S+2)*6^n) j) :=
  ⟨λj x hj hx=>hk.r0 j x hj (qT hx),λj i s a x hj hi hs ha hx=>hk.r1 j i s a x hj hi hs (qT ha) hx,λj s a hj hs ha=>hk.r2 j s a hj hs (qT ha),hk.r3,λx hx=>hk.k1 x (qT hx),hk.k2,hk.k3⟩
 have hok:∀c x,c<=n->qN S c x->okN x:=qN_1 (by omega)
 refine(Q0b h hb hn (qN S) hok qN_2 qN_3 (λi j hi hj=>q0 (hA i j hi hj)) (λi hi=>q0 (hB i hi)) _ _ hk').mono λv V' _ ⟨r,hr⟩=>⟨r,?_⟩
 unfold augN
 cases e:(elim numO n (n+1) (x06 A n λ_ i=>b i)).2.2 with
 | some c=>rw[e]at hr; exact hr
 | none =>
   rw[e]at hr
   refine⟨hr.1,hr.2,λi hi => ?_⟩
   have hBQ:∀i j,i<n->j<n+1->qN S n ((elim numO n (n+1) (x06 A n λ_ i=>b i)).1 i j):=G0e numO (qN S) n (n+1) qN_2 qN_3 n 0 _ 0 (by omega) (by omega) λi j hi hj=>by
    show qN S 0 (if j<n then A i j else b i)
    split
    . exact q0 (hA i j hi (by assumption))
    . exact q0 (hB i hi)
   have key:∀j,j<=n->∀i,n-j<=i->i<n->(j08 numO Cq.zero (elim numO n (n+1) (x06 A n λ_ i=>b i)).1 n j i).sz<=Xb ((S+2)*6^n) j:=by
    intro j
    induction j with
    | zero=>intro _ i h1 h2; omega
    | succ j ih =>
      intro hj i h1 h2
      have ih:=ih (by omega)
      simp only[j08]
      by_cases e:i=n-(j+1)
      . rw[if_pos e]
        refine hk'.r2 j _ _ (by omega) ?_ (hBQ _ _ (by omega) (by omega))
        have bs:∀k,k<=j->(b0r numO (elim numO n (n+1) (x06 A n λ_ i=>b i)).1 (j08 numO Cq.zero (elim numO n (n+1) (x06 A n λ_ i=>b i)).1 n j) (n-(j+1)) n k).sz<=(S+2)*6^n+k*((S+2)*6^n+Xb ((S+2)*6^n) j+2):=by
         intro k
         induction k with
         | zero=>intro _; exact hk'.r0 j _ (by omega) (hBQ _ _ (by omega) (by omega))
         | succ k ihk=>intro hkj; exact hk'.r1 j k _ _ _ (by omega) (by omega) (ihk (by omega)) (hBQ _ _ (by omega) (by omega)) (ih _ (by omega) (by omega))
        exact bs j (Nat.le_refl j)
      . rw[if_neg e]; exact hk'.r3 j _ (by omega) (ih i (by omega) h2)
   exact key n (Nat.le_refl n) i (by omega) hi
def adjQ(A:Nat->Nat->Cq):Nat->Nat->Cq:=λk i=>(A i k).conj
theorem D0k{V:View}{p:Sl}{n w:Nat}{A:Nat->Nat->Cq}(h:A04 5 numC V p (matL n w A))(h0:0<n)(hn:n<=32)(hw:w<=32) :
 a00 prog U08 #[p.v] V λv V'=>∃r:Sl,v = .tuple #[r.v,.int .i64 0]/\A04 5 numC V' r (matL w n (adjQ A)):=by
 have hl:p.len=n:=by have:=h.len; rw[Z00]at this; exact this
 obtain⟨e1,e2,_⟩:=Y0e A hn hw
 have e2:=e2 h0
 refine A08 p V _
  (λ_ x V'=>∃k:Nat,x.t20=k/\k<=w/\x.o17.length=w/\i03 5 numC x.o0 V' x.o17 w (λi=>if i<k then rowL n (adjQ A i)else [])) (λ_ x _=>w-x.t20.toNat)
  (λc x V'=>∃k j:Nat,c.t20=k/\c.t7=k/\k<w/\x.t25=j/\j<=n/\x.o17.length=w/\i03 5 numC x.o0 V' x.o17 w (λi=>if i<k then rowL n (adjQ A i)else if i=k then rowL j (adjQ A k)else [])) (λ_ x _=>n-x.t25.toNat) ?_
 refine(w06 h (by rw[Z00]; omega)).mono λv V1 l1 hv=>⟨_,_,hv,λhf => ?_,λ_ => ?_⟩
 . rw[e1]at hf; simp at hf
 rw[e2,hl,Int.toNat_natCast]
 refine⟨⟨by omega,by omega,by omega,by omega⟩,⟨0,rfl,by omega,by simp,?_⟩,?_⟩
 . rw[o0v]; exact(M0c V1 w).congr λi _=>by rw[if_neg (by omega)]
 rintro⟨t20,o0,o17⟩ V3 l3 ⟨k,ek,hk,hol,hR⟩
 dsimp only at ek hol hR ⊢
 subst ek
 refine⟨λhlt=>⟨⟨k,0,rfl,rfl,by simp at hlt; omega,rfl,by omega,hol,hR.congr λi hi => ?_⟩,?_⟩,λhge => ?_⟩
 . by_cases e:i<k
   . rw[if_pos e,if_pos e]
   . rw[if_neg e,if_neg e]
     split<;>rfl
 . rintro⟨t25,o0',o17'⟩ V4 l4 ⟨k',j,ek,_,hkw,ej,hj,hol',hR'⟩
   dsimp only at ek ej hol' hR' ⊢
   obtain rfl:k=k':=by omega
   subst ej
   refine⟨λhlt2 => ?_,λhge2 => ?_⟩
   . have hjn:j<n:=by simp at hlt2; omega
     obtain⟨s3,e3,r1,r2,r3,⟨o3,r4,r5,r6⟩,r7⟩:=hR'.row (i:=k) hkw
     rw[if_neg (by omega),if_pos rfl]at r1 r6
     rw[L00]at r1
     obtain⟨g1,s,g2,g3⟩:=(h.le numC.le (View.le_trans l1 (View.le_trans l3 l4))).row (t:=(j:Int)) (by omega) (row:=rowL w (A j)) (by rw[Int.toNat_natCast]; exact Q04 hjn A)
     rw[hl]at g1
     obtain⟨d1,x,hx,hxl,hh,hs⟩:=B00.get g3 (t:=(k:Int)) (by omega) (z:=A j k) (by rw[Int.toNat_natCast]; exact O04 hkw _)
     obtain⟨y,rfl,hy⟩:=hx
     refine⟨⟨by omega,by omega⟩,s3,by rw[Int.toNat_natCast,Nat.mul_one,Nat.zero_add]; exact e3,g1,s,.inr g2,d1,y,.inr hh,hs,(q0i hy).mono λv V5 l5 ⟨r,hv,hr⟩=>⟨r,hv,λb2 V6 l6 _ hb2 => ?_⟩⟩
     have hnew:V6.has (some (Addr.mk b2 0 none)) r.val.cells.toList:=x04 (cs:=r.val.cells.toList) (j:=0) hb2 (λi v hv=>by rw[Nat.zero_add]; exact hv) rfl
     have hrc:numC V6 r.val.cells.toList (adjQ A k j):=⟨r,rfl,hr.le l6⟩
     refine⟨o3,_,⟨r2,r3⟩,e09 (View.le_trans l5 l6) r4,r5,.inr hnew,rfl,oneN hrc,by unfold maxLen; omega,by omega,λ_ h2=>r7 1 (by omega) h2,λa1 c1 m1 ha=>⟨⟨by omega,by omega⟩,by rw[hol',Int.toNat_natCast]; omega,?_⟩⟩
     have:=(hR'.le numC.le (View.le_trans l5 l6)).app (i:=k) hkw e3 (z:=adjQ A k j) rfl hrc (o':=o3) (by rw[if_neg (by omega),if_pos rfl]; exact r6.imp (numC.le (View.le_trans l5 l6))) ha
     rw[i64w (by omega) (by omega)]
     refine⟨⟨k,j+1,rfl,rfl,hkw,by omega,by omega,by simp[hol'],?_⟩,by omega⟩
     have e1:(0+Int.toNat (k:Int)*1)=k:=by omega
     rw[e1]
     refine this.congr λi hi => ?_
     by_cases e:i=k
     . subst e
       simp only[if_true,Nat.lt_irrefl,if_false]
       exact w09 _ _
     . simp only[if_neg e]
   . have e:j=n:=by simp at hge2; omega
     subst e
     rw[i64w (by omega) (by omega)]
     refine⟨⟨k+1,by omega,by omega,hol',hR'.congr λi hi => ?_⟩,by omega⟩
     by_cases e:i<k
     . rw[if_pos e,if_pos (by omega)]
     . rw[if_neg e]
       by_cases e2:i=k
       . subst e2; rw[if_pos rfl,if_pos (by omega)]
       . rw[if_neg e2,if_neg (by omega)]
 . have e:k=w:=by simp at hge; omega
   subst e
   refine⟨by decide,λV7 l7 hpub b5 V8 l8 hb5=>⟨_,rfl,?_⟩⟩
   have hR2:i03 5 numC o0 V3 o17 k (λi=>rowL n (adjQ A i)):=hR.congr λi hi=>by rw[if_pos hi]
   exact hR2.knownL numC.le hol (View.le_trans l7 l8) (λb cs hb=>l8 b cs (hpub b cs hb)) hb5
def nrmA(n:Nat)(A:Nat->Nat->Cq):Nat->Nat->Cq:=λi j=>sq (λk=>adjQ A i k*A k j) 0 n
def nrmB(n:Nat)(A:Nat->Nat->Cq)(b:Nat->Cq):Nat->Cq:=λi=>sq (λk=>adjQ A i k*b k) 0 n
theorem S0v{f:Nat->Cq}{S:Nat}:∀(j:Nat),(∀k,k<j->(f k).sz<=S)->(sq f 0 j).sz<=1+j*(S+1)
 | 0,_=>by have:=P06; show Cq.zero.sz<=_; omega
 | j+1,h=>by
   have ih:=S0v j λk hk=>h k (by omega)
   have h1:=b0c (sq f 0 j) (f (0+j))
   have h2:=h (0+j) (by omega)
   rw[sq,Nat.add_mul]; omega
theorem a0s{n:Nat}{A:Nat->Nat->Cq}{S w:Nat}(h:∀i j,i<n->j<w->(A i j).sz<=S)(m:Nat)(hm:m<=n)(i j:Nat)(hi:i<w)(hj:j<w):(sq (λk=>adjQ A i k*A k j) 0 m).sz<=1+n*(2*S+2):=by
 have:=S0v (f:=λk=>adjQ A i k*A k j) (S:=2*S+1) m λk hk=>by
  have h1:=y03 (adjQ A i k) (A k j)
  have h2:=h k i (by omega) hi
  have h3:=h k j (by omega) hj
  have h4:(adjQ A i k).sz=(A k i).sz:=K0c _
  omega
 have h2:m*(2*S+1+1)<=n*(2*S+2):=Nat.mul_le_mul hm (by omega)
 omega
theorem b0s{n:Nat}{A:Nat->Nat->Cq}{b:Nat->Cq}{S w:Nat}(h:∀i j,i<n->j<w->(A i j).sz<=S)(hb:∀i,i<n->(b i).sz<=S)(m:Nat)(hm:m<=n)(i:Nat)(hi:i<w):(sq (λk=>adjQ A i k*b k) 0 m).sz<=1+n*(2*S+2):=by
 have:=S0v (f:=λk=>adjQ A i k*b k) (S:=2*S+1) m λk hk=>by
  have h1:=y03 (adjQ A i k) (b k)
  have h2:=h k i (by omega) hi
  have h3:=hb k (by omega)
  have h4:(adjQ A i k).sz=(A k i).sz:=K0c _
  omega
 have h2:m*(2*S+1+1)<=n*(2*S+2):=Nat.mul_le_mul hm (by omega)
 omega
theorem z0p{V:View}{p q:Sl}{n w:Nat}{A:Nat->Nat->Cq}{b:Nat->Cq}(S:Nat)(h:A04 5 numC V p (matL n w A))(hb:g08 V q (rowL n b))(h0:0<n)(hn:n<=32)(hw:w<=32)
 (hA:∀i j,i<n->j<w->(A i j).sz<=S) (hB:∀i,i<n->(b i).sz<=S) (T:Nat) (hT:T=1+n*(2*S+2))
 (hS:(T+2)*6^w+w*((T+2)*6^w+Xb ((T+2)*6^w) w+2)<=2^36) (hX:Xb ((T+2)*6^w) w<=2^36) :
 a00 prog q0l #[p.v,q.v] V λv V'=>∃r:Sl,match (elim numO w (w+1) (augN w (nrmA n A) (nrmB n A b))).2.2 with
  | none=>v = .tuple #[r.v,.int .i64 0]/\g08 V' r (rowL w (j08 numO Cq.zero (elim numO w (w+1) (augN w (nrmA n A) (nrmB n A b))).1 w w)) /\
      ∀i,i<w->(j08 numO Cq.zero (elim numO w (w+1) (augN w (nrmA n A) (nrmB n A b))).1 w w i).sz<=Xb ((T+2)*6^w) w
  | some _=>v = .tuple #[r.v,.int .i64 6]/\r=⟨none,0,0⟩:=by
 have hl:p.len=n:=by have:=h.len; rw[Z00]at this; exact this
 have hql:q.len=n:=by have:=hb.len; rw[L00]at this; exact this
 have hpw:0<6^w:=Nat.pow_pos (by omega)
 have hTb:T+2<=2^36:=by
  have:(T+2)*1<=(T+2)*6^w:=Nat.mul_le_mul_left _ hpw
  omega
 have hSb:2*S+2<=2^36:=by
  have:1*(2*S+2)<=n*(2*S+2):=Nat.mul_le_mul_right _ h0
  omega
 have hcsz:∀i k,i<w->k<n->(adjQ A i k).sz<=S:=λi k hi hk=>by rw[show(adjQ A i k).sz=(A k i).sz from K0c _]; exact hA k i hk hi
 refine x0j p q V _ (λ_ _ _=>True)
  (λ_ x V'=>∃i:Nat,x.t38=i/\i<=w/\x.o32.length=w/\i03 5 numC x.o0 V' x.o32 w (λr=>if r<i then rowL w (nrmA n A r)else [])/\j01 5 numC V' x.o35 (rowL w λr=>if r<i then nrmB n A b r else Cq.zero))
  (λ_ x _=>w-x.t38.toNat)
  (λc x V'=>∃i j:Nat,c.t38=i/\c.t10=i/\i<w/\x.t45=j/\j<=w/\x.o32.length=w/\i03 5 numC x.o0 V' x.o32 w (λr=>if r<i then rowL w (nrmA n A r)else if r=i then rowL j (nrmA n A i)else []) /\
    j01 5 numC V' x.o35 (rowL w λr=>if r<i then nrmB n A b r else Cq.zero))
  (λ_ x _=>w-x.t45.toNat)
  (λc x V'=>∃i j k:Nat,c.t38=i/\c.t10=i/\i<w/\c.t45=j/\c.t12=j/\j<w/\x.t50=k/\k<=n/\x.o32.length=w/\i03 5 numC x.o0 V' x.o32 w (λr=>if r<i then rowL w (nrmA n A r)else if r=i then rowL j (nrmA n A i)else []) /\
    j01 5 numC V' c.o35 (rowL w λr=>if r<i then nrmB n A b r else Cq.zero)/\N00 V' x.o13 (sq (λk=>adjQ A i k*A k j) 0 k))
  (λ_ x _=>n-x.t50.toNat)
  (λc x V'=>∃i k:Nat,c.t38=i/\c.t10=i/\i<w/\x.t81=k/\k<=n/\c.o32.length=w/\i03 5 numC c.o0 V' c.o32 w (λr=>if r<i+1 then rowL w (nrmA n A r)else []) /\
    j01 5 numC V' x.o35 (rowL w λr=>if r<i then nrmB n A b r else if r=i then sq (λk=>adjQ A i k*b k) 0 k else Cq.zero))
  (λ_ x _=>n-x.t81.toNat) ?_
 refine(D0k h h0 hn hw).mono λv V1 l1 ⟨r1,hv,hr1⟩=>⟨r1,0,hv,⟨λhf=>absurd hf (by simp),λ_=>⟨λhf => ?_,λ_=>trivial⟩⟩,?_⟩
 . rw[hl,hql]at hf; simp at hf
 have hrl:r1.len=w:=by have:=hr1.len; rw[Z00]at this; exact this
 rintro⟨u⟩ V2 l2 -
 rw[hrl,hl]
 have hz:(List.replicate (Int.toNat (w:Int)) [Value.bool false,Value.slice none 0 0,Value.bool false,Value.slice none 0 0,Value.slice none 0 0]).flatten.length=w*5:=by simp
 refine⟨⟨by omega,by omega,by omega,by omega⟩,⟨by omega,by omega,by omega,by omega⟩,⟨0,rfl,by omega,by simp,?_,?_⟩,?_⟩
 . rw[o0v,Int.toNat_natCast]; exact(M0c V2 w).congr λi _=>by rw[if_neg (by omega)]
 . have e:(rowL w λr=>if r<0 then nrmB n A b r else Cq.zero)=List.replicate w Cq.zero:=by
     rw[<-w0c]; exact P04 λk _=>by rw[if_neg (by omega)]
   rw[e,Int.toNat_natCast]; exact b0n.zeros V2 w
 rintro⟨t38,o0,o32,o35⟩ V5 l5 ⟨i,ei,hi,hol,hR,hC⟩
 dsimp only at ei hol hR hC ⊢
 subst ei
 refine⟨λhlt => ?_,λhge => ?_⟩
 . have hiw:i<w:=by simp at hlt; omega
   have L5:=View.le_trans l2 l5
   obtain⟨g1,s,g2,g3⟩:=(hr1.le numC.le L5).row (t:=(i:Int)) (by omega) (row:=rowL n (adjQ A i)) (by rw[Int.toNat_natCast]; exact Q04 hiw _)
   rw[hrl]at g1
   have g3l:s.len=n:=by have:=g3.len; rw[L00]at this; exact this
   refine⟨g1,s,.inr g2,⟨i,0,rfl,rfl,hiw,rfl,by omega,hol,hR.congr λr _ => ?_,hC⟩,?_⟩
   . by_cases e:r<i
     . rw[if_pos e,if_pos e]
     . rw[if_neg e,if_neg e]; split<;>rfl
   rintro⟨t45,o0',o32',o35'⟩ V6 l6 ⟨i',j,ei,_,_,ej,hj,hol',hR',hC'⟩
   dsimp only at ei ej hol' hR' hC' ⊢
   obtain rfl:i=i':=by omega
   subst ej
   refine⟨λhlt2 => ?_,λhge2 => ?_⟩
   . have hjw:j<w:=by simp at hlt2; omega
     refine⟨⟨i,j,0,rfl,rfl,hiw,rfl,rfl,hjw,rfl,by omega,hol',hR',hC',N00.zero V6⟩,?_⟩
     rintro⟨t50,o0'',o13,o32''⟩ V7 l7 ⟨i',j',k,ei,_,_,ej,_,_,ek,hk,hol'',hR'',hC'',hs⟩
     dsimp only at ei ej ek hol'' hR'' hC'' hs ⊢
     obtain rfl:i=i':=by omega
     obtain rfl:j=j':=by omega
     subst ek
     have L7:=View.le_trans l6 l7
     refine⟨λhlt3 => ?_,λhge3 => ?_⟩
     . have hkn:k<n:=by simp at hlt3; omega
       obtain⟨d1,x,⟨y,rfl,hy⟩,hxl,hh,hsm⟩:=B00.get (B00.le (numC.le L7) L7 g3) (t:=(k:Int)) (by omega) (z:=adjQ A i k) (by rw[Int.toNat_natCast]; exact O04 hkn _)
       obtain⟨f1,s2,f2,f3⟩:=(h.le numC.le (View.le_trans l1 (View.le_trans L5 L7))).row (t:=(k:Int)) (by omega) (row:=rowL w (A k)) (by rw[Int.toNat_natCast]; exact Q04 hkn A)
       rw[hl]at f1
       obtain⟨d2,x2,⟨y2,rfl,hy2⟩,hxl2,hh2,hsm2⟩:=B00.get f3 (t:=(j:Int)) (by omega) (z:=A k j) (by rw[Int.toNat_natCast]; exact O04 hjw _)
       have z1:=hcsz i k hiw hkn
       have z2:=hA k j hkn hjw
       have z3:=a0s hA k hk i j hiw hjw
       have z4:=y03 (adjQ A i k) (A k j)
       refine⟨d1,y,.inr hh,hsm,f1,s2,.inr f2,d2,y2,.inr hh2,hsm2,(p03 hy hy2 (by omega) (by omega)).mono λv V8 l8 ⟨r3,hv,h3⟩=>⟨r3,hv,?_⟩⟩
       refine(J04 (hs.le l8) h3 (by omega) (by omega)).mono λv V9 l9 ⟨r4,hv,h4⟩=>⟨r4,hv,?_⟩
       rw[i64w (by omega) (by omega)]
       have L9:=View.le_trans l8 l9
       refine⟨⟨i,j,k+1,rfl,rfl,hiw,rfl,rfl,hjw,by omega,by omega,hol'',hR''.le numC.le L9,hC''.imp (numC.le L9),?_⟩,by omega⟩
       rw[sq,Nat.zero_add]; exact h4
     . have e:k=n:=by simp at hge3; omega
       subst e
       obtain⟨s3,e3,r1',r2,r3,⟨o3,r4,r5,r6⟩,r7⟩:=hR''.row (i:=i) hiw
       rw[if_neg (by omega),if_pos rfl]at r1' r6
       rw[L00]at r1'
       refine⟨⟨by omega,by omega⟩,s3,by rw[Int.toNat_natCast,Nat.mul_one,Nat.zero_add]; exact e3,λb3 V10 l10 _ hb3 => ?_⟩
       have hnew:V10.has (some (Addr.mk b3 0 none)) o13.val.cells.toList:=x04 (cs:=o13.val.cells.toList) (j:=0) hb3 (λi v hv=>by rw[Nat.zero_add]; exact hv) rfl
       have hrc:numC V10 o13.val.cells.toList (nrmA k A i j):=⟨o13,rfl,hs.le l10⟩
       refine⟨o3,_,⟨r2,r3⟩,e09 l10 r4,r5,.inr hnew,rfl,oneN hrc,by unfold maxLen; omega,by omega,λ_ h2=>r7 1 (by omega) h2,λa1 c1 m1 ha=>⟨⟨by omega,by omega⟩,by rw[hol'',Int.toNat_natCast]; omega,?_⟩⟩
       have:=(hR''.le numC.le l10).app (i:=i) hiw e3 (z:=nrmA k A i j) rfl hrc (o':=o3) (by rw[if_neg (by omega),if_pos rfl]; exact r6.imp (numC.le l10)) ha
       rw[i64w (by omega) (by omega)]
       refine⟨⟨i,j+1,rfl,rfl,hiw,by omega,by omega,by simp[hol''],?_,hC''.imp (numC.le l10)⟩,by omega⟩
       have e1:(0+Int.toNat (i:Int)*1)=i:=by omega
       rw[e1]
       refine this.congr λr hr => ?_
       by_cases e:r=i
       . subst e
         simp only[if_true,Nat.lt_irrefl,if_false]
         exact w09 _ _
       . simp only[if_neg e]
   . have ej:j=w:=by simp at hge2; omega
     subst ej
     have hR4:i03 5 numC o0' V6 o32' j (λr=>if r<i+1 then rowL j (nrmA n A r)else []):=hR'.congr λr _=>by
      by_cases e:r<i
      . rw[if_pos e,if_pos (by omega)]
      . rw[if_neg e]
        by_cases e2:r=i
        . subst e2; rw[if_pos rfl,if_pos (by omega)]
        . rw[if_neg e2,if_neg (by omega)]
     refine⟨⟨i,0,rfl,rfl,hiw,rfl,by omega,hol',hR4,?_⟩,?_⟩
     . rw[P04 (g:=λr=>if r<i then nrmB n A b r else Cq.zero) (λr _=>by
         by_cases e:r<i
         . rw[if_pos e,if_pos e]
         . rw[if_neg e,if_neg e]; split<;>rfl)]
       exact hC'
     rintro⟨t81,o35''⟩ V11 l11 ⟨i',k,ei,_,_,ek,hk,hol4,hR5,hC5⟩
     dsimp only at ei ek hol4 hR5 hC5 ⊢
     obtain rfl:i=i':=by omega
     subst ek
     have L11:=View.le_trans l6 l11
     refine⟨λhlt3 => ?_,λhge3 => ?_⟩
     . have hkn:k<n:=by simp at hlt3; omega
       obtain⟨x0,⟨y0,rfl,hy0⟩,hxl0,hg0⟩:=hC5.at (i:=i) (z:=sq (λk=>adjQ A i k*b k) 0 k) (by rw[O04 hiw,if_neg (by omega),if_pos rfl])
       obtain⟨d1,x,⟨y,rfl,hy⟩,hxl,hh,hsm⟩:=B00.get (B00.le (numC.le L11) L11 g3) (t:=(k:Int)) (by omega) (z:=adjQ A i k) (by rw[Int.toNat_natCast]; exact O04 hkn _)
       obtain⟨d2,x2,⟨y2,rfl,hy2⟩,hxl2,hh2,hsm2⟩:=B00.get (hb.le (View.le_trans l1 (View.le_trans L5 L11))) (t:=(k:Int)) (by omega) (z:=b k) (by rw[Int.toNat_natCast]; exact O04 hkn _)
       rw[hql]at d2
       have z1:=hcsz i k hiw hkn
       have z2:=hB k hkn
       have z3:=b0s hA hB k hk i hiw
       have z4:=y03 (adjQ A i k) (b k)
       refine⟨⟨by omega,by omega⟩,y0,by rw[Int.toNat_natCast]; exact hg0,d1,y,.inr hh,hsm,by rw[hql]; exact d2,y2,.inr hh2,hsm2,(p03 hy hy2 (by omega) (by omega)).mono λv V12 l12 ⟨r5,hv,h5⟩=>⟨r5,hv,?_⟩⟩
       refine(J04 (N00.le l12 hy0) h5 (by omega) (by omega)).mono λv V13 l13 ⟨r6,hv,h6⟩=>⟨r6,hv,⟨by omega,by omega⟩,?_,?_⟩
       . rw[hC5.length,L00,Int.toNat_natCast]
         have e2:i*5+5=(i+1)*5:=by omega
         rw[Nat.zero_add,e2]; exact Nat.mul_le_mul_right _ hiw
       . have L13:=View.le_trans l12 l13
         rw[i64w (by omega) (by omega)]
         refine⟨⟨i,k+1,rfl,rfl,hiw,by omega,by omega,hol4,hR5.le numC.le L13,?_⟩,by omega⟩
         have hset:=(hC5.imp (numC.le L13)).set0 (i:=i) (by rw[L00]; exact hiw) (lenN r6) (X0t h6)
         rw[J0d]at hset
         rw[Int.toNat_natCast]
         rw[P04 (g:=λr=>if r<i then nrmB n A b r else if r=i then sq (λk=>adjQ A i k*b k) 0 (k+1)else Cq.zero) (λr _=>by
          by_cases e:r=i
          . subst e; rw[if_pos rfl,if_neg (by omega),if_pos rfl,sq,Nat.zero_add]
          . rw[if_neg e,if_neg e,if_neg e])]at hset
         exact hset
     . have e:k=n:=by simp at hge3; omega
       subst e
       rw[i64w (by omega) (by omega)]
       refine⟨⟨i+1,by omega,by omega,hol4,hR5,?_⟩,by omega⟩
       rw[P04 (g:=λr=>if r<i then nrmB k A b r else if r=i then sq (λk=>adjQ A i k*b k) 0 k else Cq.zero) (λr _=>by
        by_cases e:r<i
        . rw[if_pos e,if_pos (by omega)]
        . rw[if_neg e]
          by_cases e2:r=i
          . subst e2; rw[if_pos rfl,if_pos (by omega)]; rfl
          . rw[if_neg e2,if_neg (by omega)])]
       exact hC5
 . have ei:i=w:=by simp at hge; omega
   subst ei
   refine⟨by decide,λV14 l14 hpub b6 V15 l15 hb6 b7 V16 l16 hb7 => ?_⟩
   have hR2:i03 5 numC o0 V5 o32 i (λr=>rowL i (nrmA n A r)):=hR.congr λr hr=>by rw[if_pos hr]
   have L16:=View.le_trans l14 (View.le_trans l15 l16)
   have hM:A04 5 numC V16 ⟨some ⟨b6,0,none⟩,i,i⟩ (matL i i (nrmA n A)):=hR2.knownL numC.le hol L16 (λb cs hb=>l16 b cs (l15 b cs (hpub b cs hb))) (l16 _ _ hb6)
   rw[P04 (g:=nrmB n A b) (λr hr=>by rw[if_pos hr])]at hC
   have hv':g08 V16 ⟨some ⟨b7,0,none⟩,i,i⟩ (rowL i (nrmB n A b)):=M05 hb7 (hC.imp (numC.le L16)) (by rw[L00])
   rw[Int.toNat_natCast]
   have tA:∀r j,r<i->j<i->(nrmA n A r j).sz<=T:=λr j h1 h2=>by rw[hT]; exact a0s hA n (Nat.le_refl n) r j h1 h2
   have tB:∀r,r<i->(nrmB n A b r).sz<=T:=λr h1=>by rw[hT]; exact b0s hA hB n (Nat.le_refl n) r h1
   refine(w0m T hM hv' hw tA tB hS hX).mono λv V17 l17 ⟨r7,h7⟩ => ?_
   cases e:(elim numO i (i+1) (augN i (nrmA n A) (nrmB n A b))).2.2 with
   | none=>rw[e]at h7; exact⟨r7,0,h7.1,r7,rfl,h7.2⟩
   | some c=>rw[e]at h7; exact⟨r7,6,h7.1,r7,rfl,h7.2⟩
theorem c0s{V:View}(s:B03):a00 prog u0d #[s.val] V λv _=>v=(H03.mk s.x s.y s.z).val:=q0c s V _ rfl
theorem Z0e{V:View}(a:H03):a00 prog s0l #[a.val] V λv _=>v=(B03.mk a.e0 a.e1 a.e2).val :=
 y0j a V _ ⟨⟨by omega,by omega⟩,⟨by omega,by omega⟩,⟨by omega,by omega⟩,rfl⟩
theorem x0m{V:View}{s:B03}{p:P3}(h:H05 V s p):a00 prog F07 #[s.val] V λv _=>v = .bool (!p.real):=by
 refine p0e s V _ ((Q01 h.x).mono λv V1 l1 hv=>⟨_,hv,λh1 => ?_,λh1 => ?_⟩)
 . have:decide (p.x.im=0)=false:=by simpa using h1
   unfold P3.real; rw[this]; rfl
 . have e1:decide (p.x.im=0)=true:=by simpa using h1
   refine(Q01 (h.y.le l1)).mono λv V2 l2 hv=>⟨_,hv,λh2 => ?_,λh2 => ?_⟩
   . have:decide (p.y.im=0)=false:=by simpa using h2
     unfold P3.real; rw[e1,this]; rfl
   . have e2:decide (p.y.im=0)=true:=by simpa using h2
     refine(Q01 (h.z.le (View.le_trans l1 l2))).mono λv V3 l3 hv=>⟨_,hv,?_⟩
     unfold P3.real; rw[e1,e2]; rfl
theorem y0m{V:View}{s:Sl}{ps:List P3}(h:B00 15 i0m V s ps)(hn:ps.length<=2^40)(q:Fn0) :
 a00 prog y04 #[s.v,q.val F07] V λv _=>∃r:Int,v = .int .i64 r/\(0<=r↔∃p,p∈ps/\p.real=false):=by
 have hl:=h.len
 refine W02 s q V _ (λ_ x _=>∃t:Nat,x.t8=t/\t<=ps.length/\∀p,p∈ps.take t->p.real=true) (λ_ x _=>ps.length-x.t8.toNat) ⟨⟨0,rfl,by omega,by simp⟩,?_⟩
 rintro⟨t⟩ V1 l1 ⟨t',ht,htn,hi⟩
 dsimp only at ht ⊢
 subst ht
 refine⟨λhlt => ?_,λhge => ?_⟩
 . simp only[decide_eq_true_eq]at hlt
   have hk:t'<ps.length:=by omega
   obtain⟨g1,x,⟨y,rfl,hy⟩,_,hh,hs⟩:=B00.get (B00.le (i0m.le l1) l1 h) (t:=(t':Int)) (by omega) (z:=ps[t']) (by simp)
   refine⟨g1,y,hh,hs,(x0m hy).mono λv V2 l2 hv=>⟨_,hv,λhr=>⟨_,rfl,?_⟩,λhr => ?_⟩⟩
   . have e:ps[t'].real=false:=by simpa using hr
     exact⟨λ_=>⟨_,List.getElem_mem hk,e⟩,λ_=>by omega⟩
   . have e:ps[t'].real=true:=by simpa using hr
     rw[i64w (by omega) (by omega)]
     refine⟨⟨t'+1,by omega,by omega,λp hp => ?_⟩,by omega⟩
     rw[List.take_add_one,List.getElem?_eq_getElem hk]at hp
     simp only[Option.toList_some,List.mem_append,List.mem_singleton]at hp
     rcases hp with hp|hp
     . exact hi p hp
     . subst hp; exact e
 . have e:t'=ps.length:=by simp at hge; omega
   subst e
   rw[List.take_length]at hi
   exact⟨-1,rfl,λh=>absurd h (by omega),λ⟨p,h1,h2⟩=>by rw[hi p h1]at h2; simp at h2⟩
theorem P0g{V:View}{s:Sl}{ps:List P3}(h:B00 15 i0m V s ps)(hn:ps.length<=2^40):a00 prog W0c #[s.v] V λv _=>v = .bool (ps.all P3.real):=by
 refine F0h s V _ ((A02 s ⟨⟩ V _ ((y0m h hn _).mono λv V1 l1 ⟨r,hv,hr⟩=>⟨r,hv,?_⟩):a00 prog i04 #[s.v,(Fn0.mk).val F07] V λv _=>v = .bool (!ps.all P3.real)).mono λv V1 l1 hv=>⟨_,hv,?_⟩)
 . congr 1
   rw[Bool.eq_iff_iff,decide_eq_true_eq,ge_iff_le,hr]
   simp only[Bool.not_eq_true',List.all_eq_false,Bool.not_eq_true]
 . rw[Bool.not_not]
theorem d0s{V:View}{s:B03}{p:P3}(h:H05 V s p){b:Nat}(hb:V b=some s.val.cells):a00 prog W0c #[(Sl.mk (some (Addr.mk b 0 none)) 1 1).v] V λv _=>v = .bool p.real:=by
 refine(P0g (ps:=[p]) (B00.of_block (o:=s.val.cells.toList) (o':=[]) (b:=b) (λ_=>by simpa using hb) (j01.one rfl ⟨s,rfl,h⟩) rfl (Nat.le_refl _) (λ_=>rfl)) (by show 1<=2^40; decide)).mono λv V1 _ hv => ?_
 rw[hv]; simp
theorem E0d{V:View}{s:Z03}{f:F3}(h:N0a V s f):a00 prog k0b #[s.val] V λv _=>v = .bool f.real:=by
 refine G0a s V _ λb1 V1 l1 _ hb1 => ?_
 have hC:j01 15 i0m V1 (s.o.val.cells.toList++(s.u.val.cells.toList++s.v.val.cells.toList)) [f.o,f.u,f.v] :=
  ⟨_,_,rfl,rfl,⟨s.o,rfl,h.o.le l1⟩,_,_,rfl,rfl,⟨s.u,rfl,h.u.le l1⟩,_,[],by simp,rfl,⟨s.v,rfl,h.v.le l1⟩,rfl⟩
 refine(P0g (ps:=[f.o,f.u,f.v]) (B00.of_block (o:=s.o.val.cells.toList++(s.u.val.cells.toList++s.v.val.cells.toList)) (o':=[]) (b:=b1) (λ_=>by rw[List.append_nil]; exact hb1) hC rfl (Nat.le_refl _) (λ_=>rfl)) (by show 3<=2^40; decide)).mono λv V2 l2 hv=>⟨_,hv,?_⟩
 simp[F3.real]
theorem Z0t{V:View}{a b:B03}{p q:P3}{S T:Nat}(hp:H05 V a p)(hq:H05 V b q)(sp:p.szle S)(sq:q.szle T)(hS:S+T<=2^37) :
 a00 prog o0o #[a.val,b.val] V λv V'=>∃r:NumV,v=r.val/\N00 V' r (dotP p q):=by
 obtain⟨s1,s2,s3⟩:=sp
 obtain⟨t1,t2,t3⟩:=sq
 have a1:=y03 p.x q.x; have a2:=y03 p.y q.y; have a3:=y03 p.z q.z
 have b1:=b0c (p.x*q.x) (p.y*q.y)
 refine T0l a b V _ ((p03 hp.x hq.x (by omega) (by omega)).mono λv V1 l1 ⟨r1,hv,h1⟩=>⟨r1,hv,?_⟩)
 refine(p03 (hp.y.le l1) (hq.y.le l1) (by omega) (by omega)).mono λv V2 l2 ⟨r2,hv,h2⟩=>⟨r2,hv,?_⟩
 refine(J04 (h1.le l2) h2 (by omega) (by omega)).mono λv V3 l3 ⟨r3,hv,h3⟩=>⟨r3,hv,?_⟩
 have L:=View.le_trans l1 (View.le_trans l2 l3)
 refine(p03 (hp.z.le L) (hq.z.le L) (by omega) (by omega)).mono λv V4 l4 ⟨r4,hv,h4⟩=>⟨r4,hv,?_⟩
 exact(J04 (h3.le l4) h4 (by omega) (by omega)).mono λv V5 l5 ⟨r5,hv,h5⟩=>⟨r5,hv,r5,rfl,h5⟩
theorem G0c{V:View}{n:Int}(h0 : -9223372036854775808<=n)(h1:n<=9223372036854775807):a00 prog a0j #[.int .i64 n] V λv V'=>∃r:NumV,v=r.val/\N00 V' r ⟨(n:Rat),0⟩ :=
 G0h n V _ ((S02 h0 h1).mono λv V1 l1 ⟨r1,hv,h1⟩=>⟨r1,hv,r1,rfl,h1⟩)
theorem e0s{V:View}{s:Z03}{f:F3}{S:Nat}(h:N0a V s f)(sf:f.szle S)(hS:S<=2^36) :
 a00 prog n0l #[s.val] V λv V'=>∃r:NumV,v = .tuple #[r.val,.int .i64 (if f.real=true then 0 else 1)]/\N00 V' r (if f.real=true then dotP f.u f.v else Cq.zero):=by
 refine z0j s V _ ((E0d h).mono λv V1 l1 hv=>⟨_,hv,λhr => ?_,λhr => ?_⟩)
 . have e:f.real=false:=by simpa using hr
   rw[e]; exact⟨zN,rfl,N00.zero V1⟩
 . have e:f.real=true:=by simpa using hr
   rw[e]
   exact(Z0t (h.u.le l1) (h.v.le l1) sf.u sf.v (by omega)).mono λv V2 l2 ⟨r2,hv,h2⟩=>⟨r2,hv,r2,rfl,h2⟩
structure Mk where
 i:Int
 j:Int
 p:P3
def Mk.in64(m:Mk):Prop:=(-9223372036854775808<=m.i/\m.i<=9223372036854775807)/\(-9223372036854775808<=m.j/\m.j<=9223372036854775807)
structure k0x (V:View) (s:m0c) (m:Mk):Prop where
 i:s.i=m.i
 j:s.j=m.j
 p:H05 V s.at_ m.p
def A0p(V:View)(x:List Value)(m:Mk):Prop:=∃s:m0c,x=s.val.cells.toList/\k0x V s m
theorem A0p.le{V V':View}(hle:V.le V')(x:List Value)(m:Mk)(h:A0p V x m):A0p V' x m:=by
 obtain⟨s,e,h1,h2,h3⟩:=h; exact⟨s,e,h1,h2,h3.le hle⟩
def a0f(V:View)(s:Sl)(ms:List Mk):Prop:=B00 17 A0p V s ms
theorem a0f.le{V V':View}(hle:V.le V'){s:Sl}{ms:List Mk}(h:a0f V s ms):a0f V' s ms:=B00.le (A0p.le hle) hle h
def intQ(n:Int):Cq:=⟨(n:Rat),0⟩
theorem M07{n:Int}(h : -9223372036854775808<=n/\n<=9223372036854775807):(intQ n).sz<=64:=by
 refine(Rep.ofInt n).sz (k:=64) ?_ (by decide) (by decide)
 exact W03 (by omega)
def f0s(p:P3)(a:Nat):Cq:=if a=0 then p.x else if a=1 then p.y else p.z
def mkD:Mk:=⟨0,0,P3.zero⟩
def fitA(ms:List Mk):Nat->Nat->Cq:=λr k=>if k=0 then intQ 1 else if k=1 then intQ (ms.getD r mkD).i else intQ (ms.getD r mkD).j
def fitB(ms:List Mk)(a:Nat):Nat->Cq:=λr=>f0s (ms.getD r mkD).p a
def fitX(ms:List Mk)(a:Nat):Nat->Cq:=j08 numO Cq.zero (elim numO 3 4 (augN 3 (nrmA ms.length (fitA ms)) (nrmB ms.length (fitA ms) (fitB ms a)))).1 3 3
def fitF(ms:List Mk):F3:=⟨⟨fitX ms 0 0,fitX ms 1 0,fitX ms 2 0⟩,⟨fitX ms 0 1,fitX ms 1 1,fitX ms 2 1⟩,⟨fitX ms 0 2,fitX ms 1 2,fitX ms 2 2⟩⟩
def E0k(ms:List Mk):Cq:=detD 3 (nrmA ms.length (fitA ms))
def fitE(ms:List Mk):Int:=if ms.length<3\/32<ms.length then 4 else if ms.all (λm=>m.p.real)=true then(if E0k ms=Cq.zero then 6 else 0)else 1
theorem T0v(ms:List Mk)(a:Nat):detD 3 (augN 3 (nrmA ms.length (fitA ms)) (nrmB ms.length (fitA ms) (fitB ms a)))=E0k ms:=rfl
theorem b0f{n:Nat}(hn:n<=32):(1+n*(2*1100+2)+2)*6^3+3*((1+n*(2*1100+2)+2)*6^3+Xb ((1+n*(2*1100+2)+2)*6^3) 3+2)<=2^36/\Xb ((1+n*(2*1100+2)+2)*6^3) 3<=2^32:=by
 have hT:(1+n*(2*1100+2)+2)*6^3<=15300000:=by omega
 generalize (1+n*(2*1100+2)+2)*6^3=T at *
 have e:Xb T 3<=204*T+408:=by simp only[Xb]; omega
 omega
theorem U0v{ms:List Mk}(h:∀m∈ms,m.in64)(r k:Nat):(fitA ms r k).sz<=64:=by
 have hd:(ms.getD r mkD).in64:=by
  rcases Nat.lt_or_ge r ms.length with g|g
  . have e:ms.getD r mkD=ms[r]:=by simp[List.getD,g]
    rw[e]; exact h _ (List.getElem_mem g)
  . have e:ms.getD r mkD=mkD:=by simp[List.getD,g]
    rw[e]; exact⟨⟨by show(-9223372036854775808:Int)<=0; decide,by show(0:Int)<=9223372036854775807; decide⟩,⟨by show(-9223372036854775808:Int)<=0; decide,by show(0:Int)<=9223372036854775807; decide⟩⟩
 unfold fitA
 split
 . exact M07 ⟨by decide,by decide⟩
 . split
   . exact M07 hd.1
   . exact M07 hd.2
theorem c0f{ms:List Mk}{r:Nat}(h:r<ms.length):ms[r]?=some (ms.getD r mkD):=by simp[List.getD,h]
theorem B0p{V:View}{s:B03}{p:P3}(h:H05 V s p){a:Nat}(ha:a<3) :
 ∃y:NumV,List.take 5 (List.drop (a*5) (s.x.val.cells.toList++(s.y.val.cells.toList++s.z.val.cells.toList)))=y.val.cells.toList/\N00 V y (f0s p a):=by
 obtain⟨x,⟨y,rfl,hy⟩,_,hg⟩:=(E0u h.x h.y h.z).at (i:=a) (z:=f0s p a) (by
  have:a=0\/a=1\/a=2:=by omega
  rcases this with rfl|rfl|rfl<;>rfl)
 rw[Nat.zero_add]at hg
 exact⟨y,hg,hy⟩
theorem W0v{p:P3}{S:Nat}(h:p.szle S)(a:Nat):(f0s p a).sz<=S:=by
 unfold f0s
 split
 . exact h.1
 . split
   . exact h.2.1
   . exact h.2.2
theorem H0c{V:View}{o:List Value}{g:Nat->Cq}(h:j01 5 numC V o (rowL 9 g))(k:Nat)(hk:k<3) :
 ∃a:H03,List.take 15 (List.drop (k*15) o)=a.val.cells.toList/\N00 V a.e0 (g (3*k))/\N00 V a.e1 (g (3*k+1))/\N00 V a.e2 (g (3*k+2)):=by
 have h1:=(h.drop (3*k)).take 3
 have e:List.take 3 (List.drop (3*k) (rowL 9 g))=[g (3*k),g (3*k+1),g (3*k+2)]:=by
  have:k=0\/k=1\/k=2:=by omega
  rcases this with rfl|rfl|rfl<;>rfl
 have e1:3*k*5=k*15:=by omega
 rw[e,e1]at h1
 obtain⟨a,ho,h2,h3,h4⟩:=i0r h1
 exact⟨a,ho,h2,h3,h4⟩
def T08(ms:List Mk)(a k:Nat):Nat->Cq:=λq=>if q%3<a\/(q%3=a/\q / 3<k)then fitX ms (q%3) (q / 3)else Cq.zero
theorem X0v(ms:List Mk)(r:Nat):rowL 3 (fitA ms r)=[intQ 1,intQ (ms.getD r mkD).i,intQ (ms.getD r mkD).j]:=rfl
theorem l0x{V:View}{b:Nat}{a1 a2 a3:NumV}{x y z:Cq}(hb:V b=some (a1.val.cells.toList++(a2.val.cells.toList++a3.val.cells.toList)).toArray)(h1:N00 V a1 x)(h2:N00 V a2 y)(h3:N00 V a3 z) :
 B00 5 numC V ⟨some ⟨b,0,none⟩,3,3⟩ [x,y,z] :=
 B00.of_block (o:=a1.val.cells.toList++(a2.val.cells.toList++a3.val.cells.toList)) (o':=[]) (b:=b) (λ_=>by rw[List.append_nil]; exact hb) (E0u h1 h2 h3) rfl (Nat.le_refl _) (λ_=>rfl)
set_option maxHeartbeats 1000000 in
theorem a0u{V:View}{s:Sl}{ms:List Mk}(h:a0f V s ms)(hi:∀m∈ms,m.in64)(hz:∀m∈ms,m.p.szle 1100) :
 a00 prog l0o #[s.v] V λv V'=>∃r:Z03,v = .tuple #[r.val,.int .i64 (fitE ms)]/\N0a V' r (if fitE ms=0 then fitF ms else F3.zero) /\
  (fitE ms=0->(fitF ms).szle (2^32)):=by
 have hl:s.len=ms.length:=h.len
 let n:=ms.length
 let A:=fitA ms
 have nil:∀(e:Int) (V':View),fitE ms=e->e≠0->∃r:Z03,Value.tuple #[(Z03.mk ⟨zN,zN,zN⟩ ⟨zN,zN,zN⟩ ⟨zN,zN,zN⟩).val,.int .i64 e]=Value.tuple #[r.val,.int .i64 (fitE ms)] /\
  N0a V' r (if fitE ms=0 then fitF ms else F3.zero)/\(fitE ms=0->(fitF ms).szle (2^32)):=λe V' he hne=>by
  rw[he,if_neg hne]; exact⟨_,rfl,N0a.zero V',λh=>absurd h hne⟩
 let rowN:View->List Value->List Cq->Prop:=λV x row=>∃s:Sl,x=[s.v]/\B00 5 numC V s row
 have rowN_le:∀ {V V':View},V.le V'->∀x row,rowN V x row->rowN V' x row:=λhle x row ⟨s,e,hs⟩=>⟨s,e,g08.le hle hs⟩
 refine U0l s V _ (λ_ _ _=>3<=n/\n<=32)
  (λ_ x V'=>∃(t:Nat) (l:List Value),x.t26=t/\t<=n/\g04 1 x.t4l x.t4c x.o4 l/\x.t4l=t/\j01 1 rowN V' l (matL t 3 A)/\∀m∈ms.take t,m.p.real=true) (λ_ x _=>n-x.t26.toNat)
  (λ_ x V'=>∃a:Nat,x.t48=a/\a<=3/\j01 5 numC V' x.o7 (rowL 9 (T08 ms a 0))/\(0<a->E0k ms≠Cq.zero/\∀b,b<a->∀k,k<3->(fitX ms b k).sz<=2^32)) (λ_ x _=>3-x.t48.toNat)
  (λc x V'=>∃(a t:Nat) (l:List Value),c.t48=a/\a<3/\x.t53=t/\t<=n/\g04 5 x.t9l x.t9c x.o9 l/\x.t9l=t/\j01 5 numC V' l (rowL t (fitB ms a))/\j01 5 numC V' x.o7 (rowL 9 (T08 ms a 0))) (λ_ x _=>n-x.t53.toNat)
  (λc x V'=>∃a k:Nat,c.t48=a/\a<3/\x.t77=k/\k<=3/\j01 5 numC V' x.o7 (rowL 9 (T08 ms a k))) (λ_ x _=>3-x.t77.toNat) ?_
 rw[hl]
 refine⟨⟨λh3=>nil 4 V ?_ (by decide),λh3=>⟨λh4=>nil 4 V ?_ (by decide),λh4 => ?_⟩⟩,?_⟩
 . unfold fitE; rw[if_pos (.inl (by simp at h3; omega))]
 . unfold fitE; rw[if_pos (.inr (by simp at h4; omega))]
 . exact⟨by simp at h3; omega,by simp at h4; omega⟩
 rintro⟨o2⟩ V1 l1 ⟨hn3,hn32⟩
 have hn3:3<=ms.length:=hn3
 have hn32:ms.length<=32:=hn32
 refine⟨⟨0,[],rfl,by omega,g04.nil,rfl,rfl,by simp⟩,?_⟩
 rintro⟨t4l,t4c,t26,o2',o4⟩ V2 l2 ⟨t,l,et,ht,hL,e4,hC,hreal⟩
 dsimp only at et hL e4 hC ⊢
 subst et; subst e4
 have L2:=View.le_trans l1 l2
 refine⟨λhlt => ?_,λhge => ?_⟩
 . have hk:t4l<ms.length:=by simp at hlt; omega
   obtain⟨g1,x,⟨m,rfl,hm⟩,_,hh,hs⟩:=B00.get (h.le L2) (t:=(t4l:Int)) (by omega) (z:=ms.getD t4l mkD) (by rw[Int.toNat_natCast]; exact c0f hk)
   rw[hl]at g1
   have hmem:ms.getD t4l mkD∈ms:=List.mem_of_getElem? (c0f hk)
   obtain⟨i1,i2⟩:=hi _ hmem
   refine⟨g1,m,hh,hs,λb1 V3 l3 _ hb1=>(d0s (hm.p.le l3) hb1).mono λv V4 l4 hv=>⟨_,hv,λhr=>nil 1 V4 ?_ (by decide),λhr => ?_⟩⟩
   . have e:(ms.getD t4l mkD).p.real=false:=by simpa using hr
     unfold fitE
     rw[if_neg (by omega),if_neg (by
      intro hall
      rw[List.all_eq_true]at hall
      rw[hall _ hmem]at e; simp at e)]
   . have hre:(ms.getD t4l mkD).p.real=true:=by simpa using hr
     refine(G0c (by omega) (by omega)).mono λv V5 l5 ⟨r2,hv,h2⟩=>⟨r2,hv,?_⟩
     rw[hm.i,hm.j]
     refine(G0c i1.1 i1.2).mono λv V6 l6 ⟨r3,hv,h3⟩=>⟨r3,hv,?_⟩
     refine(G0c i2.1 i2.2).mono λv V7 l7 ⟨r4,hv,h4⟩=>⟨r4,hv,λb2 V8 l8 _ hb2 b3 V9 l9 _ hb3 => ?_⟩
     have M9:=View.le_trans l8 l9
     have hrow:B00 5 numC V9 ⟨some ⟨b2,0,none⟩,3,3⟩ (rowL 3 (fitA ms t4l)):=by
      rw[X0v]
      exact l0x (l9 _ _ hb2) (h2.le (View.le_trans l6 (View.le_trans l7 M9))) (h3.le (View.le_trans l7 M9)) (h4.le M9)
     have hnew:V9.has (some (Addr.mk b3 0 none)) [Value.slice (some ⟨b2,0,none⟩) 3 3]:=x04 (cs:=[Value.slice (some ⟨b2,0,none⟩) 3 3]) (j:=0) hb3 (λi v hv=>by rw[Nat.zero_add]; exact hv) rfl
     refine⟨l,_,hL,hnew,rfl,by intro v hv; simp at hv; subst hv; rfl,by unfold maxLen; omega,by omega,λc1 l3' hl3 => ?_⟩
     rw[i64w (by omega) (by omega)]
     refine⟨⟨t4l+1,_,by omega,hk,hl3,rfl,?_,λq hq => ?_⟩,by omega⟩
     . have e:matL (t4l+1) 3 A=matL t4l 3 A++[rowL 3 (A t4l)]:=by simp[matL,List.range_succ]
       rw[e]
       exact(hC.imp (rowN_le (View.le_trans l3 (View.le_trans l4 (View.le_trans l5 (View.le_trans l6 (View.le_trans l7 M9))))))).append (j01.one rfl ⟨_,rfl,hrow⟩)
     . rw[List.take_add_one,c0f hk]at hq
       simp only[Option.toList_some,List.mem_append,List.mem_singleton]at hq
       rcases hq with hq|hq
       . exact hreal q hq
       . subst hq; exact hre
 have et:t4l=ms.length:=by simp at hge; have:t4l<=ms.length:=ht; omega
 subst et
 rw[List.take_length]at hreal
 have hall:ms.all (λm=>m.p.real)=true:=List.all_eq_true.2 hreal
 intro b4 V10 l10 hb4
 have hM:A04 5 numC V10 ⟨lstA b4 t4c,ms.length,t4c⟩ (matL ms.length 3 A):=O08 hL hb4 (hC.imp (rowN_le l10)) (by rw[Z00])
 have L10:=View.le_trans L2 l10
 refine⟨⟨0,rfl,by omega,?_,λh=>absurd h (by omega)⟩,?_⟩
 . have e:rowL 9 (T08 ms 0 0)=List.replicate 9 Cq.zero:=by
     rw[<-w0c]; exact P04 λq _=>by unfold T08; rw[if_neg (by omega)]
   rw[e]; exact b0n.zeros V10 9
 rintro⟨t48,o2'',o7⟩ V11 l11 ⟨a,ea,ha,hP,hdone⟩
 dsimp only at ea hP ⊢
 subst ea
 have L11:=View.le_trans L10 l11
 refine⟨λhlt=>⟨⟨a,0,[],rfl,by simp at hlt; omega,rfl,by omega,g04.nil,rfl,rfl,hP⟩,?_⟩,λhge => ?_⟩
 . have ha3:a<3:=by simp at hlt; omega
   rintro⟨t9l,t9c,t53,o2x,o7',o9⟩ V12 l12 ⟨a',t,lb,ea,_,et,ht,hLb,e9,hCb,hP'⟩
   dsimp only at ea et hLb e9 hCb hP' ⊢
   obtain rfl:a=a':=by omega
   subst et; subst e9
   have L12:=View.le_trans L11 l12
   refine⟨λhlt2 => ?_,λhge2 => ?_⟩
   . have hk:t9l<ms.length:=by simp at hlt2; omega
     obtain⟨g1,x,⟨m,rfl,hm⟩,_,hh,hs⟩:=B00.get (h.le L12) (t:=(t9l:Int)) (by omega) (z:=ms.getD t9l mkD) (by rw[Int.toNat_natCast]; exact c0f hk)
     rw[hl]at g1
     refine⟨g1,m,hh,hs,(c0s m.at_).mono λv V13 l13 hv=>⟨_,hv,⟨by omega,by omega⟩,?_⟩⟩
     obtain⟨y,hy1,hy2⟩:=B0p (hm.p.le l13) ha3
     refine⟨y,by rw[Int.toNat_natCast]; exact hy1,λb5 V14 l14 _ hb5 => ?_⟩
     have hnew:V14.has (some (Addr.mk b5 0 none)) y.val.cells.toList:=x04 (cs:=y.val.cells.toList) (j:=0) hb5 (λi v hv=>by rw[Nat.zero_add]; exact hv) rfl
     have hyc:numC V14 y.val.cells.toList (fitB ms a t9l):=⟨y,rfl,hy2.le l14⟩
     refine⟨lb,_,hLb,hnew,rfl,oneN hyc,by unfold maxLen; omega,by omega,λc2 l6 hl6 => ?_⟩
     rw[i64w (by omega) (by omega)]
     have M14:=View.le_trans l13 l14
     refine⟨⟨a,t9l+1,_,rfl,ha3,by omega,hk,hl6,rfl,?_,hP'.imp (numC.le M14)⟩,by omega⟩
     rw[<-w09]
     exact(hCb.imp (numC.le M14)).append (j01.one rfl hyc)
   . have et:t9l=ms.length:=by simp at hge2; have:t9l<=ms.length:=ht; omega
     subst et
     intro b6 V15 l15 hb6
     have hb:g08 V15 ⟨lstA b6 t9c,ms.length,t9c⟩ (rowL ms.length (fitB ms a)):=O08 hLb hb6 (hCb.imp (numC.le l15)) (by rw[L00])
     have M15:=View.le_trans l11 (View.le_trans l12 l15)
     have sB:∀r,r<ms.length->(fitB ms a r).sz<=1100:=λr hr=>W0v (hz _ (List.mem_of_getElem? (c0f hr))) a
     refine(z0p 1100 (hM.le numC.le M15) hb (by omega) hn32 (by omega) (λr k _ _=>Nat.le_trans (U0v hi r k) (by omega)) sB _ rfl (b0f hn32).1 (Nat.le_trans (b0f hn32).2 (by decide))).mono λv V16 l16 ⟨r6,h6⟩ => ?_
     have hiff:=t0t (n:=3) (w:=4) (by omega) (by omega) (by omega) (augN 3 (nrmA ms.length (fitA ms)) (nrmB ms.length (fitA ms) (fitB ms a)))
     rw[T0v]at hiff
     cases hst:(elim numO 3 4 (augN 3 (nrmA ms.length (fitA ms)) (nrmB ms.length (fitA ms) (fitB ms a)))).2.2 with
     | some c =>
       rw[show(elim numO 3 (3+1) (augN 3 (nrmA ms.length A) (nrmB ms.length A (fitB ms a)))).2.2=some c from hst]at h6
       obtain⟨hv,hr⟩:=h6
       have hd:E0k ms=Cq.zero:=Classical.byContradiction λg=>by rw[hiff.2 g]at hst; simp at hst
       refine⟨r6,6,hv,λ_=>nil 6 V16 ?_ (by decide),λhf=>by simp at hf⟩
       unfold fitE
       rw[if_neg (by omega),if_pos hall,if_pos hd]
     | none =>
       rw[show(elim numO 3 (3+1) (augN 3 (nrmA ms.length A) (nrmB ms.length A (fitB ms a)))).2.2=none from hst]at h6
       obtain⟨hv,hx,hsz⟩:=h6
       have hx:g08 V16 r6 (rowL 3 (fitX ms a)):=hx
       have hxl:r6.len=3:=by have:=hx.len; rw[L00]at this; exact this
       have hd:E0k ms≠Cq.zero:=hiff.1 hst
       refine⟨r6,0,hv,λhf=>by simp at hf,λ_=>⟨⟨a,0,rfl,ha3,rfl,by omega,hP'.imp (numC.le (View.le_trans l15 l16))⟩,?_⟩⟩
       rintro⟨t77,o7''⟩ V17 l17 ⟨a',k,ea,_,ek,hk3,hP3⟩
       dsimp only at ea ek hP3 ⊢
       obtain rfl:a=a':=by omega
       subst ek
       rw[hxl]
       refine⟨λhlt3 => ?_,λhge3 => ?_⟩
       . have hk:k<3:=by simp at hlt3; omega
         obtain⟨d1,y,hh,hs,hy⟩:=(hx.le l17).get (t:=(k:Int)) (by omega) (by rw[L00,Int.toNat_natCast]; exact hk)
         rw[hxl]at d1
         have hyk:N00 V17 y (fitX ms a k):=by
          have e:nth (rowL 3 (fitX ms a)) (Int.toNat (k:Int))=fitX ms a k:=by rw[Int.toNat_natCast]; exact n0v hk _
          rw[e]at hy; exact hy
         refine⟨d1,y,hh,hs,⟨by omega,by omega⟩,⟨by omega,by omega⟩,?_,?_⟩
         . rw[hP3.length,L00,Int.toNat_natCast,Int.toNat_natCast]; omega
         . rw[i64w (by omega) (by omega)]
           refine⟨⟨a,k+1,rfl,ha3,by omega,by omega,?_⟩,by omega⟩
           have hset:=hP3.set0 (i:=3*k+a) (by rw[L00]; omega) (lenN y) (X0t hyk)
           rw[J0d]at hset
           rw[Int.toNat_natCast,Int.toNat_natCast]
           have e1:0+(3*k+a)*5=0+k*15+a*5:=by omega
           rw[e1]at hset
           rw[P04 (g:=T08 ms a (k+1)) (λq hq=>by
            unfold T08
            by_cases e:q=3*k+a
            . subst e
              have m1:(3*k+a)%3=a:=by omega
              have m2:(3*k+a) / 3=k:=by omega
              rw[if_pos rfl,m1,m2,if_pos (by omega)]
            . rw[if_neg e]
              by_cases c:q%3<a\/(q%3=a/\q / 3<k)
              . rw[if_pos c,if_pos (by omega)]
              . rw[if_neg c,if_neg (by omega)])]at hset
           exact hset
       . have ek:k=3:=by simp at hge3; omega
         subst ek
         rw[i64w (by omega) (by omega)]
         refine⟨⟨a+1,by omega,by omega,?_,λ_=>⟨hd,λb hb k hk => ?_⟩⟩,by omega⟩
         . rw[P04 (g:=T08 ms a 3) (λq hq=>by
             unfold T08
             by_cases c:q%3<a+1\/(q%3=a+1/\q / 3<0)
             . rw[if_pos c,if_pos (by omega)]
             . rw[if_neg c,if_neg (by omega)])]
           exact hP3
         . by_cases e:b<a
           . exact(hdone (by omega)).2 b e k hk
           . have:b=a:=by omega
             subst this
             have:=hsz k hk
             exact Nat.le_trans this (b0f hn32).2
 . have ea:a=3:=by simp at hge; omega
   subst ea
   obtain⟨hd,hsz⟩:=hdone (by omega)
   have hE:fitE ms=0:=by unfold fitE; rw[if_neg (by omega),if_pos hall,if_neg hd]
   have hg:∀k c,k<3->c<3->T08 ms 3 0 (3*k+c)=fitX ms c k:=λk c hk hc=>by
    unfold T08
    have m1:(3*k+c)%3=c:=by omega
    have m2:(3*k+c) / 3=k:=by omega
    rw[m1,m2,if_pos (by omega)]
   obtain⟨a0,o0,p00,p01,p02⟩:=H0c hP 0 (by omega)
   obtain⟨a1,o1,p10,p11,p12⟩:=H0c hP 1 (by omega)
   obtain⟨a2,o2,p20,p21,p22⟩:=H0c hP 2 (by omega)
   refine⟨⟨by omega,by omega⟩,a0,o0,⟨by omega,by omega⟩,a1,o1,⟨by omega,by omega⟩,a2,o2,?_⟩
   refine(Z0e a0).mono λv V18 l18 hv=>⟨_,hv,(Z0e a1).mono λv V19 l19 hv=>⟨_,hv,(Z0e a2).mono λv V20 l20 hv=>⟨_,hv,⟨⟨a0.e0,a0.e1,a0.e2⟩,⟨a1.e0,a1.e1,a1.e2⟩,⟨a2.e0,a2.e1,a2.e2⟩⟩,?_,?_,?_⟩⟩⟩
   . rw[hE]
   . rw[hE,if_pos rfl]
     have K:=View.le_trans l18 (View.le_trans l19 l20)
     have g:=λk c hk hc (x:NumV) (hx:N00 V11 x (T08 ms 3 0 (3*k+c)))=>(show N00 V20 x (fitX ms c k)from by rw[hg k c hk hc]at hx; exact hx.le K)
     exact⟨⟨g 0 0 (by omega) (by omega) _ p00,g 0 1 (by omega) (by omega) _ p01,g 0 2 (by omega) (by omega) _ p02⟩,⟨g 1 0 (by omega) (by omega) _ p10,g 1 1 (by omega) (by omega) _ p11,g 1 2 (by omega) (by omega) _ p12⟩,
      ⟨g 2 0 (by omega) (by omega) _ p20,g 2 1 (by omega) (by omega) _ p21,g 2 2 (by omega) (by omega) _ p22⟩⟩
   . intro _
     exact⟨⟨hsz 0 (by omega) 0 (by omega),hsz 1 (by omega) 0 (by omega),hsz 2 (by omega) 0 (by omega)⟩,⟨hsz 0 (by omega) 1 (by omega),hsz 1 (by omega) 1 (by omega),hsz 2 (by omega) 1 (by omega)⟩,⟨hsz 0 (by omega) 2 (by omega),hsz 1 (by omega) 2 (by omega),hsz 2 (by omega) 2 (by omega)⟩⟩
theorem T0a{V:View}{n c:Nat}{w:List Value}{f:Nat->Int}(h1:1<=n)(hn:n<=w.length)(hw:n<=2^60)(hf:∀p,p<n->w[p]?=some (.int .u8 (f p))) :
 c0c prog o06 (λb=>(Value.slice (some ⟨b,0,none⟩) n c::[]:List Value)) T_u8 w V λv l _=>v = .tuple #[]/\l.length=w.length/\l.take n=(w.take n).reverse:=by
 refine Y05 0 n c w V _ (λ_ x _=>∃i j:Nat,x.t2=(i:Int)/\x.t3=(j:Int)/\j+i=n-1/\(i<=j+1)/\x.o0=revI w n i) (λ_ x _=>(x.t3-x.t2+2).toNat) ⟨⟨0,n-1,rfl,?_,by omega,by omega,(n0r w n).symm⟩,?_⟩
 . show i64.wrap ((n:Int)-1)=_
   rw[i64w (by omega) (by omega)]; omega
 rintro⟨t,u,o⟩ V1 l1 ⟨i,j,rfl,rfl,hij,hi,rfl⟩
 have gd:∀p,p<n->w.getD p undef = .int .u8 (f p):=λp hp=>by simp[List.getD,hf p hp]
 dsimp only
 refine⟨λhlt => ?_,λhge => ?_⟩
 . simp only[decide_eq_true_eq]at hlt
   have hij':i<j:=by omega
   rw[i64w (n:=(i:Int)+1) (by omega) (by omega),i64w (n:=(j:Int)-1) (by omega) (by omega)]
   simp only[Int.toNat_natCast,Nat.mul_one,Nat.zero_add]
   refine⟨⟨by omega,by omega⟩,f j,?_,⟨by omega,by omega⟩,f i,?_,⟨by omega,by omega⟩,by rw[I04]; omega,⟨by omega,by omega⟩,by rw[List.length_set,I04]; omega,⟨i+1,j-1,by omega,by omega,by omega,by omega,?_⟩,by omega⟩
   . rw[k0n (by omega) (by omega) (by omega),gd j (by omega)]
   . rw[k0n (by omega) (by omega) (by omega),gd i (by omega)]
   . have:=o0r (o:=w) hn hij hij'
     rw[gd i (by omega),gd j (by omega)]at this
     exact this
 . simp only[decide_eq_false_iff_not]at hge
   exact⟨rfl,I04 _ _ _,w0t hn (by omega)⟩
theorem b0u{l:List Nat}{p:Nat}(h:p<l.length):(digC l)[p]?=some (.int .u8 ((48+l.getD p 0:Nat):Int)):=by simp[digC,h]
theorem N0x{r:Nat}:u8.wrap (u32.wrap (48+(Int.tmod (r:Int) 10)))=((48+r%10:Nat):Int):=by
 rw[show Int.tmod (r:Int) 10=((r%10:Nat):Int)from(Int.ofNat_tmod r 10).symm,u32w (by omega) (by omega),IntWalk.u8_in _ ⟨by omega,by omega⟩]; omega
theorem u32q{r:Nat}(h:r<4294967296):u32.wrap (Int.tdiv (r:Int) 10)=((r / 10:Nat):Int):=by
 rw[show Int.tdiv (r:Int) 10=((r / 10:Nat):Int)from(Int.ofNat_tdiv r 10).symm,u32w (by omega) (by omega)]
theorem oneC(n:Int):∀v∈[Value.int .u8 n],Value.oneCell' v=true:=by intro v hv; simp at hv; subst hv; rfl
theorem e07{V:View}{s:Sl}{N:Nat}(h:e01 V s N)(hb:bl N<=2^42) :
 a00 prog i0j #[s.v] V λv _=>v = .string (decS N):=by
 have hz:=h.len_zero
 have hlow:=C0g N
 refine H0h s V _
  (λ_ x V'=>∃(X:Nat) (dl:List Nat),e01 V' x.t0 X/\X<=N/\g04 1 x.t3l x.t3c x.o3 (digC dl)/\x.t3l=dl.length/\low N=dl++low X) (λ_ x V'=>y0g V' x.t0)
  (λc x V'=>∃(q r k:Nat) (dl:List Nat),e01 V' c.t0 q/\q<=N/\x.t4=(r:Int)/\x.t5=(k:Int)/\k<=9/\r<10^(9-k)/\g04 1 x.t3l x.t3c x.o3 (digC dl)/\x.t3l=dl.length/\low N=dl++low (q*10^(9-k)+r)) (λ_ x _=>(9-x.t5).toNat)
  ⟨λh0 => ?_,λh0=>⟨⟨N,[],h,Nat.le_refl _,g04.nil,rfl,rfl⟩,?_⟩⟩
 . have:s.len=0:=by have:(s.len:Int)=0:=(by simpa using h0); omega
   rw[hz.1 this,k0r]
 have hN0:N≠0:=by
  intro e; rw[<-hz]at e; rw[e]at h0; simp at h0
 rintro⟨t0,n,c,o⟩ V1 l1 ⟨X,dl,hX,hXN,hlo,hn,hval⟩
 dsimp only at hX hlo hn ⊢
 have hXz:=hX.len_zero
 refine⟨λhp => ?_,λhp => ?_⟩
 . simp only[gt_iff_lt,decide_eq_true_eq]at hp
   have hX0:X≠0:=λe=>by rw[<-hXz]at e; omega
   have hbX:bl X<=2^42:=Nat.le_trans (L0a hXN) hb
   refine(t0a (d:=1000000000) hX (B0b (by omega)) (by omega) (by omega)).mono λv V2 l2 ⟨r1,hv,h1⟩=>⟨r1,_,hv,⟨X / 1000000000,X%1000000000,0,dl,h1,Nat.le_trans (Nat.div_le_self _ _) hXN,rfl,rfl,by omega,?_,hlo,hn,?_⟩,?_⟩
   . exact Nat.mod_lt _ (by omega)
   . have:X / 1000000000*10^(9-0)+X%1000000000=X:=by
       rw[show(10:Nat)^(9-0)=1000000000 by decide]; omega
     rw[this]; exact hval
   rintro⟨n3,c3,r3,k3,o3⟩ V3 l3 ⟨q,r,k,dl3,hq,hqN,rfl,rfl,hk,hr,hlo3,hn3,hval3⟩
   dsimp only at hq hlo3 hn3 ⊢
   have hqe:=hq.inj (h1.le l3)
   have hlt9:r<1000000000:=Nat.lt_of_lt_of_le hr (by
    have:(10:Nat)^(9-k)<=10^9:=Nat.pow_le_pow_right (by omega) (by omega)
    exact Nat.le_trans this (by decide))
   have hl3:dl3.length<=2^42:=by
    have:=congrArg List.length hval3
    rw[List.length_append]at this; omega
   have hqz:=hq.len_zero
   have step:(q≠0\/r≠0)->k<9->∀(b1:Nat) (V4:View),V3.le V4->View.Fin V4->V4 b1=some #[.int .u8 (u8.wrap (u32.wrap (48+(Int.tmod (r:Int) 10))))] ->
    ∃(l1:List Value) (l2:List Value),g04 1 n3 c3 o3 l1/\View.has V4 (some (Addr.mk b1 0 none)) l2/\List.length l2=1*1/\(∀v∈l2,Value.oneCell' v=true)/\n3+1<=maxLen/\(n3+1)*1<=140737488355328 /\
    ∀(c1:Nat) (l3:List Value),g04 1 (n3+1) c1 l3 (l1++l2) ->
    (∃(q' r' k':Nat) (dl:List Nat),e01 V4 r1 q'/\q'<=N/\(u32.wrap (Int.tdiv (r:Int) 10))=(r':Int)/\(i64.wrap ((k:Int)+1))=(k':Int)/\k'<=9/\r'<10^(9-k')/\g04 1 (n3+1) c1 l3 (digC dl)/\n3+1=dl.length/\low N=dl++low (q'*10^(9-k')+r'))/\(9-(i64.wrap ((k:Int)+1))).toNat<(9-(k:Int)).toNat:=by
    intro hne hk9 b1 V4 l4 _ hb1
    rw[N0x]at hb1
    have hrr:r / 10<10^(9-(k+1)):=by
     have:10^(9-k)=10^(9-(k+1))*10:=by rw[<-Nat.pow_succ]; congr 1; omega
     omega
    have hst:=u0t (q:=q) (r:=r) (k:=9-(k+1)) hne
    rw[show 9-(k+1)+1=9-k by omega]at hst
    refine⟨digC dl3,[.int .u8 ((48+r%10:Nat):Int)],hlo3,K0r hb1,rfl,oneC _,Nat.le_trans (show n3+1<=2^43 by omega) (by decide),by omega,λc1 l3' hl3'=>⟨⟨q,r / 10,k+1,dl3++[r%10],hq.le l4,hqN,u32q (by omega),by rw[i64w (by omega) (by omega)]; omega,hk9,hrr,?_,by simp[hn3],?_⟩,by rw[i64w (by omega) (by omega)]; omega⟩⟩
    . rw[<-j0m]; exact hl3'
    . rw[hval3,hst]; simp
   have stop:(k=9\/q=0/\r=0)->(∃(X:Nat) (dl:List Nat),e01 V3 r1 X/\X<=N/\g04 1 n3 c3 o3 (digC dl)/\n3=dl.length/\low N=dl++low X)/\y0g V3 r1<y0g V1 t0:=by
    intro hs
    refine⟨⟨q,dl3,hq,hqN,hlo3,hn3,?_⟩,?_⟩
    . rcases hs with rfl|⟨rfl,rfl⟩
      . have:r=0:=by simp at hr; omega
        subst this
        simpa using hval3
      . simpa using hval3
    . rw[z0b hq,z0b hX,hqe]
      omega
   refine⟨λhk9=>⟨λhq1=>⟨λ_=>step (.inl ?_) (by have:(k:Int)<9:=(by simpa using hk9); omega),λh=>absurd h (by simp)⟩,λhq1=>⟨λhr1=>step (.inr ?_) (by have:(k:Int)<9:=(by simpa using hk9); omega),λhr1=>stop (.inr ⟨?_,?_⟩)⟩⟩,λhk9=>⟨λh=>absurd h (by simp),λ_=>stop (.inl ?_)⟩⟩
   . simp only[gt_iff_lt,decide_eq_true_eq]at hq1
     intro e; rw[<-hqz]at e; omega
   . simp only[gt_iff_lt,decide_eq_true_eq]at hr1; omega
   . simp only[gt_iff_lt,decide_eq_false_iff_not]at hq1; exact hqz.1 (by omega)
   . simp only[gt_iff_lt,decide_eq_false_iff_not]at hr1; omega
   . simp only[decide_eq_false_iff_not]at hk9; omega
 . simp only[gt_iff_lt,decide_eq_false_iff_not]at hp
   have hX0:X=0:=hXz.1 (by omega)
   rw[hX0,e0i,List.append_nil]at hval
   subst hval
   have hd0:low N≠[]:=by rw[f0i hN0]; simp
   have hl0:0<(low N).length:=List.length_pos_iff.2 hd0
   have hle:=hlo.le
   have htk:=hlo.take
   have hol:=hlo.len
   rw[Nat.mul_one]at htk hol
   have htl:n<=o.length:=by omega
   have g:∀p,p<n->o[p]?=some (.int .u8 (((48+(low N).getD p 0:Nat):Nat):Int)):=by
    intro p hp'
    rw[<-List.getElem?_take_of_lt hp',htk]
    exact b0u (by omega)
   refine⟨⟨by intro e; rw[e]at htl; simp at htl; omega,⟨by omega,trivial⟩,trivial⟩,?_⟩
   refine(T0a (c:=c) (f:=λp=>((48+(low N).getD p 0:Nat):Int)) (by omega) htl (by omega) g).mono λv l10 V7 l7 ⟨hv,hl10,ht10⟩=>⟨hv,λb4 V8 l8 hb4 => ?_⟩
   refine⟨decL N,?_,by rw[H0e hN0]; omega,rfl,rfl⟩
   rw[htk,x0t hN0]at ht10
   intro j v hj
   have hjl:j<n:=by
    rcases Nat.lt_or_ge j n with h|h
    . exact h
    . rw[List.getElem?_eq_none (by simp[H0e hN0]; omega)]at hj; simp at hj
   rw[M06 hb4]
   rw[<-ht10,List.getElem?_take_of_lt hjl]at hj
   simpa using hj
def f07(a:Int)(d:Nat):Cq:=⟨(a:Rat) / (d:Rat),0⟩
theorem F0k{a:Int}{d:Nat}(h:d≠0):Rep (f07 a d) a 0 d:=⟨h,rfl,by show(0:Rat)=_; rw[Rat.div_def]; simp⟩
theorem p0u(z:Cq):(⟨z.re,0⟩:Cq)=f07 z.A z.D:=Cq.ext' z.canon.rep.re rfl
theorem q0u(z:Cq):(⟨z.im,0⟩:Cq)=f07 z.B z.D:=Cq.ext' z.canon.rep.im rfl
theorem g0s{a:Int}{d:Nat}(h:d≠0):(f07 a d).A.natAbs=a.natAbs / Nat.gcd a.natAbs d/\(f07 a d).D=d / Nat.gcd a.natAbs d/\((f07 a d).A<0↔a<0):=by
 obtain⟨e1,e2,e3⟩:=(F0k (a:=a) h).eqs
 have hg:gcd3 a 0 d=Nat.gcd a.natAbs d:=by simp[gcd3]
 have d1:=A0b a 0 d
 have k1:=I05 d1
 have k2:=K0a d1 (T0h a 0 h)
 rw[e1,e3,k1,hg]
 rw[hg]at k2
 exact⟨rfl,rfl,by simpa using k2⟩
theorem A0n{a:Int}{d:Nat}(h:d≠0):bl (f07 a d).A.natAbs<=bl a.natAbs/\bl (f07 a d).D<=bl d:=by
 obtain⟨e1,e2,_⟩:=g0s (a:=a) h
 rw[e1,e2]
 exact⟨L0a (Nat.div_le_self _ _),L0a (Nat.div_le_self _ _)⟩
def ratT(a:Int)(d:Nat):ByteArray:=ratS (f07 a d).A (f07 a d).D
theorem M08{V:View}{x:WhV}{s:Sl}{a:Int}{d:Nat}(hx:k04 V x a)(hs:e01 V s d)(hd:d≠0)(ha:bl a.natAbs<=2^41)(hdb:bl d<=2^41) :
 a00 prog x0o #[x.val,s.v] V λv _=>v = .string (ratT a d):=by
 obtain⟨b1,b2⟩:=A0n (a:=a) hd
 have s1:=F0b (f07 a d).A.natAbs
 have s2:=F0b (f07 a d).D
 have hmax:i64.max=9223372036854775807:=by decide
 have z1:(ByteArray.mk #[45]).size=1:=rfl
 have z2:(ByteArray.mk #[47]).size=1:=rfl
 refine W0l x s V _ ((S03 hx (k04.zero V) hs (F0k hd) (B0b (by omega)) (by rw[show Int.natAbs 0=0 from rfl,I07]; omega) (B0b (by omega))).mono λv V1 l1 ⟨r,hv,hr⟩=>⟨r,hv,?_⟩)
 have hu:=hr.under
 have hn:=hr.re.1
 have hD:=(f07 a d).D_pos
 refine(e07 hr.re.2 (by omega)).mono λv V2 l2 hv=>⟨_,hv,λhneg=>⟨by rw[z1,hmax]; omega,λhul => ?_,λhul => ?_⟩,λhneg=>⟨λhul => ?_,λhul => ?_⟩⟩
 . simp only[gt_iff_lt,decide_eq_true_eq]at hul
   have h1:(f07 a d).D≠1:=λe=>by rw[e,if_pos rfl]at hu; have:=hu.len_zero.2 rfl; omega
   rw[if_neg h1]at hu
   refine(e07 (hu.le l2) (by omega)).mono λv V3 l3 hv=>⟨_,hv,by rw[z2,hmax]; omega,by rw[N06,N06,z1,z2,hmax]; omega,?_⟩
   unfold ratT ratS
   rw[hneg]at hn
   have hn:(f07 a d).A<0:=of_decide_eq_true hn.symm
   simp only[hn,h1,if_true,if_false]; rfl
 . simp only[gt_iff_lt,decide_eq_false_iff_not]at hul
   have h1:(f07 a d).D=1:=by
    have:=hu.len_zero.1 (by omega)
    split at this<;>omega
   unfold ratT ratS
   rw[hneg]at hn
   have hn:(f07 a d).A<0:=of_decide_eq_true hn.symm
   simp only[hn,h1,if_true]; rfl
 . simp only[gt_iff_lt,decide_eq_true_eq]at hul
   have h1:(f07 a d).D≠1:=λe=>by rw[e,if_pos rfl]at hu; have:=hu.len_zero.2 rfl; omega
   rw[if_neg h1]at hu
   refine(e07 (hu.le l2) (by omega)).mono λv V3 l3 hv=>⟨_,hv,by rw[z2,hmax]; omega,by rw[N06,z2,hmax]; omega,?_⟩
   unfold ratT ratS
   rw[hneg]at hn
   have hn:¬(f07 a d).A<0:=of_decide_eq_false hn.symm
   simp only[hn,h1,if_false]; rfl
 . simp only[gt_iff_lt,decide_eq_false_iff_not]at hul
   have h1:(f07 a d).D=1:=by
    have:=hu.len_zero.1 (by omega)
    split at this<;>omega
   unfold ratT ratS
   rw[hneg]at hn
   have hn:¬(f07 a d).A<0:=of_decide_eq_false hn.symm
   simp only[hn,h1,if_false,if_true]
theorem m0x(z:Cq):cqS z=if z.B=0 then ratT z.A z.D else if z.A=0 then ratT z.B z.D++strI else if z.B<0 then ratT z.A z.D++(ratT z.B z.D++strI)else ratT z.A z.D++(l0r++(ratT z.B z.D++strI)):=by
 unfold cqS
 rw[p0u,q0u]; rfl
theorem G0k{a:Int}{d:Nat}(h:d≠0):(ratT a d).size<=bl a.natAbs+bl d+4:=by
 have h1:=m0r (f07 a d).A (f07 a d).D
 obtain⟨b1,b2⟩:=A0n (a:=a) h
 unfold ratT; omega
theorem lenT(n:Nat):(((n:Int)==0)=true↔n=0):=by simp
theorem S0b{V:View}{x:NumV}{z:Cq}(hx:N00 V x z)(hz:z.sz<=2^40):a00 prog n0o #[x.val] V λv _=>v = .string (cqS z):=by
 have zA:=z.szA; have zB:=z.szB; have zD:=z.szD
 have hD:=z.D_pos
 have t1:=G0k (a:=z.A) hD
 have t2:=G0k (a:=z.B) hD
 have hmax:i64.max=9223372036854775807:=by decide
 have z1:(ByteArray.mk #[105]).size=1:=rfl
 have z2:(ByteArray.mk #[43]).size=1:=rfl
 rw[m0x]
 refine X0l x V _ ((Q01 hx).mono λv V1 l1 hv=>⟨_,hv,λhr => ?_,λhr => ?_⟩)
 . have hB:z.B=0:=by
     rw[Cq.B_zero]; simpa using hr
   refine(i01 (hx.le l1)).mono λv V2 l2 ⟨r,hv,h2⟩=>⟨r,hv,?_⟩
   refine(M08 (hx.re.le (View.le_trans l1 l2)) h2 hD (by omega) (by omega)).mono λv V3 l3 hv=>⟨_,hv,?_⟩
   rw[if_pos hB]
 . have hB:¬z.B=0:=by
     rw[Cq.B_zero]; simpa using hr
   rw[if_neg hB]
   refine(i01 (hx.le l1)).mono λv V2 l2 ⟨r,hv,h2⟩=>⟨r,hv,?_⟩
   refine(M08 (hx.im.le (View.le_trans l1 l2)) h2 hD (by omega) (by omega)).mono λv V3 l3 hv=>⟨_,hv,by rw[z1,hmax]; omega,λhA => ?_,λhA=>⟨λhn=>⟨by rw[N06,z1,z2,hmax]; omega,?_⟩,λhn => ?_⟩⟩
   . have hA:z.A=0:=by
       have:=(lenT _).1 hA
       have:=hx.re.2.len_zero.1 this; omega
     rw[if_pos hA]; rfl
   all_goals
    have hA:¬z.A=0:=by
     intro e
     have:=hx.re.2.len_zero.2 (by omega)
     rw[this]at hA; simp at hA
    rw[if_neg hA]
    have hneg:=hx.im.1
    refine(i01 (hx.le (View.le_trans l1 (View.le_trans l2 l3)))).mono λv V4 l4 ⟨r4,hv,h4⟩=>⟨r4,hv,?_⟩
    refine(M08 (hx.re.le (View.le_trans l1 (View.le_trans l2 (View.le_trans l3 l4)))) h4 hD (by omega) (by omega)).mono λv V5 l5 hv=>⟨_,hv,by simp only[N06,z1,z2]; rw[hmax]; omega,?_⟩
   . have hn:¬z.B<0:=by
       have:x.im.neg=false:=by simpa using hn
       rw[this]at hneg; exact of_decide_eq_false hneg.symm
     rw[if_neg hn]; rfl
   . have hn:z.B<0:=by
       have:x.im.neg=true:=by simpa using hn
       rw[this]at hneg; exact of_decide_eq_true hneg.symm
     rw[if_pos hn]; rfl
theorem n0d{V:View}{s:Sl}{a:Nat}(hs:e01 V s a)(ha:wn a<=2^45) :
 a00 prog D0q #[s.v] V λv V'=>v = .int .i64 (bl a:Nat):=by
 have hsl:=hs.len
 have hwn:wn a=s.len:=by simp only[wn]; exact hsl.symm
 refine b0p s V _ ⟨λh => ?_,λh => ?_⟩
 . have h:(s.len:Int)=0:=by simpa using h
   have:a=0:=N04.1 (by omega)
   subst this; rfl
 . have h:¬(s.len:Int)=0:=by simpa using h
   have ha0:a≠0:=by rintro rfl; rw[I07]at hwn; omega
   rw[i64w (n:=(s.len:Int)-1) (by omega) (by omega)]
   have e:Int.toNat ((s.len:Int)-1)=wn a-1:=by omega
   refine⟨⟨by omega,by omega,hs.isSome (by omega)⟩,_,hs.get (by omega) (by omega),?_⟩
   rw[e]
   have hw:=(B05 a).getD (wn a-1)
   refine(I09 hw).mono λv V' _ hv=>⟨_,hv,?_⟩
   have h2:=I0x ha0
   have h3:bl ((dig a).getD (wn a-1) 0)<=32:=by
    have h3:=(i0a ha0).2.2
    have:=z0d h3
    have:=(Nat.pow_lt_pow_iff_right (a:=2) (n:=bl ((dig a).getD (wn a-1) 0)-1) (m:=32) (by omega)).1 (by omega)
    omega
   rw[i64w (n:=32*_) (by omega) (by omega),i64w (by omega) (by omega)]
   congr 1
   omega
def quo(n d:Nat)(l:Int):Nat:=n*2^(max (-l) 0).toNat / (d*2^(max l 0).toNat)
theorem N0u(a b:Int):(if a>b then a else b)=max a b:=by split<;>omega
theorem Y0v{t:Nat}(h:t<=2045)(h':t≠2045):t*2^52+2^53<infR:=by unfold infR; omega
theorem Z0v{t m:Nat}(h:t<=2045)(hm:m<=2^53)(h':m≠2^53):t*2^52+m<infR:=by unfold infR; omega
theorem c0u{L:Int}{t:Nat}(h:(t:Int)=L+1074)(h2:L≠971):t≠2045:=by omega
theorem B0n{L:Int}{t:Nat}(h:(t:Int)=L+1074)(h2:t<=2045) : -1074<=L/\L<=2^40:=by omega
structure Rnd (way:Int) (r n d:Nat):Prop where
 down:way=0->T04 r n d
 up:way=1->IsUp r n d
 any:T04 r n d\/IsUp r n d
theorem Q0g{V:View}{sn sd:Sl}{n d:Nat}(way:Int)(hn:e01 V sn n)(hd:e01 V sd d)(d0:0<d)(zn:bl n<=2^30)(zd:bl d<=2^30) :
 a00 prog l09 #[(U07.mk 53 (-1074) 1023).val,sn.v,sd.v,.int .i64 way] V λv _=>∃r:Nat,v = .float .f64 r/\Rnd way r n d:=by
 have wn44:wn n<=2^43:=B0b (by omega)
 have wd44:wn d<=2^43:=B0b (by omega)
 refine J0h (U07.mk 53 (-1074) 1023) sn sd way V _ (λ_ x _=>Mag n d x.t9 /\ -(2^31:Int)<=x.t9/\x.t9<=2^31)
  (λc x _=>∃i:Nat,x.t82=i/\i<=c.t80.len/\x.t14=((wval ((dig (quo n d c.t10)).take i):Nat):Int)) (λc x _=>(c.t81-x.t82).toNat)
  (λc x _=>∃m r t:Nat,x.t14=m/\m<=2^53/\(t:Int)=c.t10+1074/\t<=2045/\r=t*2^52+m/\rm r=m*2^t/\Rnd way r n d)
  (λc _ _=>∃m r t:Nat,c.t14=m/\m<=2^53/\(t:Int)=c.t10+1074/\t<=2045/\r<infR/\r=t*2^52+m/\rm r=m*2^t/\Rnd way r n d) ?_
 refine⟨λh0 => ?_,λh0 => ?_⟩
 . have hl:sn.len=0:=by have:(sn.len:Int)=0:=(by simpa using h0); omega
   have n0:n=0:=hn.len_zero.1 hl
   subst n0
   refine⟨0,rfl,λ_=>T04.zero d0,λ_=>IsUp.zero _,.inr (IsUp.zero _)⟩
 have hl:sn.len≠0:=by have:¬(sn.len:Int)=0:=(by simpa using h0); omega
 have n0:n≠0:=λe=>hl (hn.len_zero.2 e)
 refine(n0d hn (Nat.le_trans wn44 (by decide))).mono λv V1 l1 hv=>⟨_,hv,?_⟩
 refine(n0d (hd.le l1) (Nat.le_trans wd44 (by decide))).mono λv V2 l2 hv=>⟨_,hv,?_⟩
 have hn2:=hn.le (View.le_trans l1 l2)
 have hd2:=hd.le (View.le_trans l1 l2)
 have w0:i64.wrap ((bl n:Nat)-(bl d:Nat):Int)=(bl n:Int)-bl d:=i64w (by omega) (by omega)
 have w1:i64.wrap (0-((bl n:Int)-bl d))=(bl d:Int)-bl n:=by rw[i64w (by omega) (by omega)]; omega
 rw[w0,w1,N0u,N0u]
 obtain⟨A,hA⟩:∃A:Nat,(A:Int)=max 0 ((bl d:Int)-bl n):=⟨(max 0 ((bl d:Int)-bl n)).toNat,by omega⟩
 obtain⟨B,hB⟩:∃B:Nat,(B:Int)=max 0 ((bl n:Int)-bl d):=⟨(max 0 ((bl n:Int)-bl d)).toNat,by omega⟩
 rw[<-hA,<-hB]
 have hmag:=a0h (n:=n) (d:=d) (x:=bl n) (y:=bl d) (A:=A) (B:=B) (z0d n0) (u0c n) (z0d (by omega)) (u0c d) (f0d n0) (f0d (by omega)) (by omega)
 refine⟨?_,?_⟩
 . refine(o03 hn2 (Nat.le_trans wn44 (by decide)) (by omega)).mono λv V4 l4 ⟨s1,hv,hs1⟩=>⟨s1,hv,?_⟩
   refine(o03 (hd2.le l4) (Nat.le_trans wd44 (by decide)) (by omega)).mono λv V5 l5 ⟨s2,hv,hs2⟩=>⟨s2,hv,?_⟩
   have wb:wn (n*2^A)<=2^50:=B0b (by
    have a1:=g0d n (2^A)
    have a2:=O06 A
    omega)
   refine(c06 (hs1.le l5) hs2 wb).mono λv V6 l6 hv=>⟨_,hv,λhc => ?_,λhc => ?_⟩
   . simp only[decide_eq_true_eq]at hc
     have lt:n*2^A<d*2^B:=by
      rcases Nat.lt_or_ge (n*2^A) (d*2^B)with g|g
      . exact g
      . exfalso; rw[if_neg (by omega)]at hc; split at hc<;>omega
     have e:i64.wrap ((bl n:Int)-bl d-1)=(B:Int)-A-1:=by rw[i64w (by omega) (by omega)]; omega
     show Mag n d (i64.wrap _)/\_<=(i64.wrap _:Int)/\(i64.wrap _:Int)<=_
     rw[e]; exact⟨hmag.1 lt,by omega,by omega⟩
   . simp only[decide_eq_false_iff_not]at hc
     have ge:d*2^B<=n*2^A:=by
      rcases Nat.lt_or_ge (n*2^A) (d*2^B)with g|g
      . exfalso; rw[if_pos g]at hc; omega
      . exact g
     have e:(bl n:Int)-bl d=(B:Int)-A:=by omega
     show Mag n d ((bl n:Int)-bl d)/\_<=((bl n:Int)-bl d)/\((bl n:Int)-bl d)<=_
     rw[e]; exact⟨hmag.2 ge,by omega,by omega⟩
 rintro⟨e⟩ V3 l3 ⟨hM,he1,he2⟩
 have hM:Mag n d e:=hM
 have he1 : -(2^31:Int)<=e:=he1
 have he2:e<=(2^31:Int):=he2
 dsimp only
 refine⟨λhc => ?_,λhc => ?_⟩
 . simp only[decide_eq_true_eq]at hc
   have hov:=hM.over (by omega)
   have hrm:rm (infR-1)=(2^53-1)*2^2045:=L0w (r:=infR-1) (e:=2045) (by decide)
   refine⟨λhw=>⟨by omega,?_⟩,λhw => ?_⟩
   . have hw:way=0:=by simpa using hw
     have k1:u64.wrap (u64.wrap (1*2^(min (Int.toNat 53) (IntKind.bits .u64)))-1)=((2^53-1:Nat):Int):=by decide
     have k2:i64.wrap (i64.wrap (1023-53)+1)=971:=by decide
     rw[k1,k2]
     have k3:(971+1074:Int).toNat=2045:=by decide
     refine(M0g (n:=2^53-1) (r:=infR-1) (s:=971) (by omega) (by omega) (by omega) (by omega) (by decide) (by rw[k3]; exact hrm)).mono λv V7 _ hv=>⟨_,hv,_,rfl,?_⟩
     have hD:T04 (infR-1) n d:=⟨by decide,Nat.le_trans (Nat.mul_le_mul_right d (z09.2 (by omega))) hov,.inl (by decide)⟩
     exact⟨λ_=>hD,λh=>by omega,.inl hD⟩
   . have hw:way≠0:=by simpa using hw
     refine N0r.mono λv V8 _ hv=>⟨_,hv,_,rfl,?_⟩
     have hU:IsUp infR n d:=⟨Nat.le_refl _,.inl rfl,.inr (Nat.lt_of_lt_of_le (Nat.mul_lt_mul_of_pos_right (U0j (by decide)) d0) hov)⟩
     exact⟨λh=>absurd h hw,λ_=>hU,.inr hU⟩
 . simp only[decide_eq_false_iff_not]at hc
   have k0:i64.wrap (i64.wrap (e-53)+1)=e-52:=by
    rw[i64w (n:=e-53) (by omega) (by omega),i64w (by omega) (by omega)]; omega
   obtain⟨L,hL⟩:∃L,L=max (e-52) (-1074):=⟨_,rfl⟩
   have kL:(if(-1074:Int)>e-52 then(-1074:Int)else e-52)=L:=by split<;>omega
   rw[k0,kL]
   have k1:i64.wrap (0-L) = -L:=by rw[i64w (by omega) (by omega)]; omega
   rw[k1]
   obtain⟨a,ha⟩:∃a:Nat,(a:Int)=max (-L) 0:=⟨(max (-L) 0).toNat,by omega⟩
   obtain⟨b,hb⟩:∃b:Nat,(b:Int)=max L 0:=⟨(max L 0).toNat,by omega⟩
   obtain⟨t,ht⟩:∃t:Nat,(t:Int)=L+1074:=⟨(L+1074).toNat,by omega⟩
   have kb:(if(0:Int)>L then(0:Int)else L)=(b:Int):=by split<;>omega
   have ka:(if(0:Int) > -L then(0:Int)else -L)=(a:Int):=by split<;>omega
   rw[kb,ka]
   have hquo:quo n d L=n*2^a / (d*2^b):=by
    unfold quo
    have e1:(max (-L) 0).toNat=a:=by omega
    have e2:(max L 0).toNat=b:=by omega
    rw[e1,e2]
   obtain⟨hq53,hq52,ht5,hr0,hdown,hup0,hup1,hr1⟩:=A0c d0 hM (by omega) hL ha hb rfl ht
   rw[<-hquo]at hq53 hq52 hr0 hdown hup0 hup1 hr1
   have bn:bl (n*2^a)<=2^31:=by
    have a1:=g0d n (2^a)
    have a2:=O06 a
    omega
   have bd:bl (d*2^b)<=2^31:=by
    have a1:=g0d d (2^b)
    have a2:=O06 b
    omega
   have hub:0<d*2^b:=Nat.mul_pos d0 (D09 b)
   refine(o03 (hd2.le l3) (Nat.le_trans wd44 (by decide)) (by omega)).mono λv V9 l9 ⟨u,hv,hu⟩=>⟨u,hv,?_⟩
   refine(o03 (hn2.le (View.le_trans l3 l9)) (Nat.le_trans wn44 (by decide)) (by omega)).mono λv V10 l10 ⟨s,hv,hs⟩=>⟨s,hv,?_⟩
   refine(e06 hs (hu.le l10) (B0b (by omega)) (by omega)).mono λv V11 l11 ⟨q,r,hv,hq,hr⟩=>⟨q,r,hv,⟨0,rfl,by omega,by simp[wval]⟩,?_⟩
   rw[<-hquo]at hq
   generalize hQ:quo n d L=Q at hq53 hq52 hr0 hdown hup0 hup1 hr1 hq
   have hql:q.len=(dig Q).length:=hq.len
   have hq2:q.len<=2:=by
    have:wn Q<=2:=B0b (by have:bl Q<=53:=W03 hq53; omega)
    simp only[wn]at this; omega
   rintro⟨y,i'⟩ V12 l12 ⟨i,hi,hil,hy⟩
   have hi:i'=(i:Int):=hi
   have hil:i<=q.len:=hil
   have hy:y=((wval ((dig Q).take i):Nat):Int):=hy
   subst hi; subst hy
   dsimp only
   have hwl:∀j,j<=q.len->wval ((dig Q).take j)<4294967296^j:=by
    intro j hj
    have:=z0e (l:=(dig Q).take j) (λd hd=>B05 Q d (List.mem_of_mem_take hd))
    rw[List.length_take,Nat.min_eq_left (by omega)]at this
    exact this
   refine⟨λhlt => ?_,λhge => ?_⟩
   . simp only[decide_eq_true_eq]at hlt
     have hi':i<q.len:=by omega
     have w32:i64.wrap (32*(i:Int))=((32*i:Nat):Int):=by rw[i64w (by omega) (by omega)]; omega
     rw[w32]
     refine⟨⟨by omega,by omega,hq.isSome (by omega)⟩,_,(hq.le l12).get (by omega) (by omega),by omega,?_⟩
     rw[Int.toNat_natCast,Int.toNat_natCast]
     have hg:=(B05 Q).getD i
     generalize hwd:(dig Q).getD i 0=w at hg
     have hyl:=hwl i (by omega)
     have hyl2:=hwl (i+1) (by omega)
     rw[g01,hwd]at hyl2
     generalize hyy:wval ((dig Q).take i)=y at hyl hyl2
     have e4:4294967296^i=2^(32*i):=by rw[show(4294967296:Nat)=2^32 from rfl,<-Nat.pow_mul]
     have hmin:min (32*i) u64.bits=32*i:=Nat.min_eq_left (by show 32*i<=64; omega)
     have hpow:(2:Int)^(32*i)=((2^(32*i):Nat):Int):=by rw[Int.natCast_pow]; rfl
     have hle:4294967296^(i+1)<=18446744073709551616:=by
      have:4294967296^(i+1)<=4294967296^2:=Nat.pow_le_pow_right (by omega) (by omega)
      omega
     have hor:=Nat.two_pow_add_eq_or_of_lt (i:=32*i) (b:=y) (by rw[<-e4]; exact hyl) w
     rw[<-e4]at hor
     have hval:u64.wrap (BitVec.toNat ((BitVec.ofInt u64.bits (y:Int)) ||| (BitVec.ofInt u64.bits (u64.wrap ((u64.wrap (w:Int))*2^(min (32*i) (IntKind.bits .u64)))))))=((y+w*4294967296^i:Nat):Int):=by
      have hw64:w*4294967296^i<2^64:=by omega
      rw[hmin,hpow,<-e4,L08 (y:=w) (by omega),<-Int.natCast_mul,L08 hw64,Q0r (by omega) hw64]
      congr 1
      rw[Nat.or_comm,Nat.mul_comm w,<-hor]; omega
     rw[hval]
     refine⟨⟨i+1,?_,by show i+1<=q.len; omega,?_⟩,?_⟩
     . show i64.wrap ((i:Int)+1)=((i+1:Nat):Int)
       rw[i64w (by omega) (by omega)]; omega
     . show((y+w*4294967296^i:Nat):Int)=((wval ((dig Q).take (i+1)):Nat):Int)
       rw[g01,hwd,hyy]
     . show((q.len:Int)-i64.wrap ((i:Int)+1)).toNat<((q.len:Int)-(i:Int)).toNat
       rw[i64w (by omega) (by omega)]; omega
   . simp only[decide_eq_false_iff_not]at hge
     have hiq:wval ((dig Q).take i)=Q:=by rw[P01 (by omega),k02]
     rw[hiq]
     have hr12:=hr.le l12
     have hrb:n*2^a%(d*2^b)<d*2^b:=Nat.mod_lt _ hub
     have hwr:wn (n*2^a%(d*2^b))<=2^43:=Nat.le_trans (J0a (Nat.le_of_lt hrb)) (B0b (by omega))
     refine(o03 (n:=1) hr12 (Nat.le_trans hwr (by decide)) (by omega)).mono λv V13 l13 ⟨s2,hv,hs2⟩=>⟨s2,hv,?_⟩
     have hw2:wn (n*2^a%(d*2^b)*2^1)<=2^50:=by
      have:=q09 (n*2^a%(d*2^b)) (2^1)
      have:wn (2^1)<=2^43:=wn64 (by omega)
      omega
     refine(c06 hs2 (hu.le (View.le_trans l10 (View.le_trans l11 (View.le_trans l12 l13)))) hw2).mono λv V14 l14 hv=>⟨_,hv,?_⟩
     have hrz:r.len=0↔n*2^a%(d*2^b)=0:=hr.len_zero
     have qs:Rnd way (t*2^52+Q) n d->(∃m r t':Nat,(Q:Int)=m/\m<=2^53/\(t':Int)=L+1074/\t'<=2045/\r=t'*2^52+m/\rm r=m*2^t'/\Rnd way r n d) :=
      λh=>⟨Q,_,t,rfl,by omega,ht,ht5,rfl,hr0,h⟩
     have ps:Rnd way (t*2^52+Q+1) n d->(∃m r t':Nat,u64.wrap ((Q:Int)+1)=m/\m<=2^53/\(t':Int)=L+1074/\t'<=2045/\r=t'*2^52+m/\rm r=m*2^t'/\Rnd way r n d) :=
      λh=>⟨Q+1,t*2^52+Q+1,t,by rw[u64w (by omega) (by omega)]; omega,by omega,ht,ht5,by omega,hr1,h⟩
     have notup:way≠1->Rnd way (t*2^52+Q) n d:=λh=>⟨λ_=>hdown,λe=>absurd e h,.inl hdown⟩
     have near:way≠1->way≠0->Rnd way (t*2^52+Q+1) n d\/n*2^a%(d*2^b)=0:=by
      intro h h'
      by_cases z:n*2^a%(d*2^b)=0
      . exact .inr z
      . exact .inl ⟨λe=>absurd e h',λe=>absurd e h,.inr (hup1 z)⟩
     refine⟨⟨λhw => ?_,λhw => ?_⟩,?_⟩
     . have hw:way=1:=by simpa using hw
       refine⟨λhz => ?_,λhz => ?_⟩
       . simp only[decide_eq_true_eq]at hz
         have z:n*2^a%(d*2^b)≠0:=λz=>by have:=hrz.2 z; rw[this]at hz; simp at hz
         exact ps ⟨λh=>absurd (h.symm.trans hw:(0:Int)=1) (by decide),λ_=>hup1 z,.inr (hup1 z)⟩
       . simp only[decide_eq_false_iff_not]at hz
         have z0:r.len=0:=by generalize r.len=k at hz; omega
         have z:=hrz.1 z0
         have g:=qs ⟨λh=>absurd (h.symm.trans hw:(0:Int)=1) (by decide),λ_=>hup0 z,.inl hdown⟩
         refine⟨λh => ?_,λ_=>g⟩
         have h:way=2:=by simpa using h
         exact absurd (h.symm.trans hw:(2:Int)=1) (by decide)
     . have hw:way≠1:=by simpa using hw
       have g:=qs (notup hw)
       refine⟨λh2 => ?_,λ_=>g⟩
       have h2:way=2:=by simpa using h2
       have h20:way≠0:=λe=>absurd (h2.symm.trans e:(2:Int)=0) (by decide)
       have pz:n*2^a%(d*2^b)≠0->(∃m r t':Nat,u64.wrap ((Q:Int)+1)=m/\m<=2^53/\(t':Int)=L+1074/\t'<=2045/\r=t'*2^52+m/\rm r=m*2^t'/\Rnd way r n d) :=
        λz=>ps ⟨λe=>absurd e h20,λe=>absurd e hw,.inr (hup1 z)⟩
       have cmpz:n*2^a%(d*2^b)=0->(if n*2^a%(d*2^b)*2^1<d*2^b then(-1:Int)else if n*2^a%(d*2^b)*2^1=d*2^b then 0 else 1) = -1:=by
        intro z; rw[z,Nat.zero_mul,if_pos hub]
       refine⟨λh3=>pz λz => ?_,λh3=>⟨λh4=>⟨λh5=>pz λz => ?_,λ_=>g⟩,λ_=>g⟩⟩
       . rw[cmpz z]at h3; simp at h3
       . rw[cmpz z]at h4; simp at h4
     rintro⟨x⟩ V15 l15 ⟨m,r,t',hx,hm,ht',ht5',hr',hrm',hR⟩
     have hx:x=(m:Int):=hx
     subst hx
     dsimp only at ht' ⊢
     have htt:t'=t:=by have e:=ht'.trans ht.symm; exact Int.ofNat.inj e
     subst htt
     have k53:u64.wrap (1*2^(min (Int.toNat 53) (IntKind.bits .u64)))=((2^53:Nat):Int):=by decide
     have k971:i64.wrap (i64.wrap (1023-53)+1)=971:=by decide
     rw[k53,k971]
     refine⟨⟨by omega,λh1=>⟨λh2 => ?_,λh2 => ?_⟩,λh1 => ?_⟩,?_⟩
     . have h1:m=2^53:=Int.ofNat.inj (by simpa using h1)
       have h2:L=971:=by simpa using h2
       have hri:r=infR:=by
        rw[hr',h1]
        have:t'=2045:=by rw[h2]at ht'; exact Int.ofNat.inj ht'
        rw[this]; decide
       refine N0r.mono λv V17 _ hv=>⟨_,hv,r,by rw[hri],hR⟩
     . have h1:m=2^53:=Int.ofNat.inj (by simpa using h1)
       have h2:L≠971:=by simpa using h2
       refine⟨m,r,t',rfl,hm,ht',ht5',?_,hr',hrm',hR⟩
       rw[hr',h1]
       exact Y0v ht5' (c0u ht' h2)
     . have h1:m≠2^53:=λe=>by rw[e]at h1; simp at h1
       refine⟨m,r,t',rfl,hm,ht',ht5',?_,hr',hrm',hR⟩
       rw[hr']
       exact Z0v ht5' hm h1
     rintro _ V16 l16 ⟨m',r',t2,hm1,hm2,ht2,ht3,hri,hre,hrm2,hR2⟩
     have hm1:(m:Int)=m':=hm1
     have hmm:m=m':=Int.ofNat.inj hm1
     subst hmm
     have ht2:(t2:Int)=L+1074:=ht2
     by_cases m0:m=0
     . subst m0
       have r0:r'=0:=I0w (by rw[hrm2,Nat.zero_mul,y0c])
       refine y0p.mono λv V18 _ hv=>⟨_,hv,r',by rw[r0],hR2⟩
     . refine(M0g (n:=m) (s:=L) (r:=r') m0 hm2 (B0n ht2 ht3).1 (B0n ht2 ht3).2 hri ?_).mono λv V18 _ hv=>⟨_,hv,r',rfl,hR2⟩
       . rw[<-ht2,Int.toNat_natCast]; exact hrm2
theorem H0k(r:Nat):F05 (r:Int)=r:=by unfold F05; rw[if_neg (by omega)]; omega
theorem i0s{r:Nat}(h:0<r):F05 (-(r:Int))=2^63+r:=by unfold F05; rw[if_pos (by omega)]; omega
theorem C0p{V:View}{sn sd:Sl}{n d:Nat}{w:Int}{R:Nat->Prop}(_:n≠0)(_:0<d)
 (h:a00 prog l09 #[(U07.mk 53 (-1074) 1023).val,sn.v,sd.v,.int .i64 w] V λv _=>∃r:Nat,v = .float .f64 r/\(T04 r n d\/IsUp r n d)/\R r) {Q:Value->View->Prop}
 (k:∀r V',R r->r<=infR->(0<r->Q (.float .f64 (2^63+r)) V')/\(r=0->Q (.float .f64 0) V')) :
 a00 prog l09 #[(U07.mk 53 (-1074) 1023).val,sn.v,sd.v,.int .i64 w] V λv V2=>∃r2:Nat,v = .float .f64 r2 /\
  ((FloatKind.f64.format.order r2 0 != some .eq)=true->Q (.float .f64 (Op.negFloat .f64 r2)) V2)/\((FloatKind.f64.format.order r2 0 != some .eq)=false->Q (.float .f64 0) V2):=by
 refine h.mono λv V2 _ ⟨r,hv,hd,hR⟩=>⟨r,hv,?_⟩
 have hr:r<=infR:=by
  rcases hd with h|h
  . exact Nat.le_of_lt h.lt
  . exact h.le
 have hr63:r<2^63:=by unfold infR at hr; omega
 have hok:okW r:=⟨by omega,by rw[Nat.mod_eq_of_lt hr63]; exact hr⟩
 have hkey:key r=(r:Int):=A0k hr63
 have k0:key 0=0:=by decide
 have e:(FloatKind.f64.format.order r 0 != some .eq) = !decide ((r:Int)=0):=by
  show(!(FloatKind.f64.format.order r 0==some .eq))=_
  rw[X0j hok (by decide),hkey,k0]
 rw[e]
 obtain⟨k1,k2⟩:=k r V2 hR hr
 refine⟨λh1 => ?_,λh1 => ?_⟩
 . have h1:r≠0:=λc=>by subst c; simp at h1
   rw[I08 (by omega),if_pos hr63,Nat.add_comm]
   exact k1 (by omega)
 . have h1:r=0:=by
     by_cases c:r=0
     . exact c
     . rw[decide_eq_false (by omega)]at h1; simp at h1
   exact k2 h1
theorem d0f{V:View}{x:WhV}{s:Sl}{A:Int}{D:Nat}{way:Int}(hw:way=0\/way=1)(hx:k04 V x A)(hs:e01 V s D)(D0:0<D)(zA:bl A.natAbs<=2^30)(zD:bl D<=2^30) :
 a00 prog u0h #[(U07.mk 53 (-1074) 1023).val,x.val,s.v,.int .i64 way] V λv _ =>
  v = .float .f64 (F05 (if 0<=A then(if way=0 then(O0a A.natAbs D:Int)else(upK A.natAbs D:Int))else(if way=0 then -(upK A.natAbs D:Int)else -(O0a A.natAbs D:Int)))):=by
 refine F0f (U07.mk 53 (-1074) 1023) x s way V _ ⟨λh => ?_,λh => ?_⟩
 . have hA:0<=A:=by rw[hx.1]at h; simpa using h
   refine(Q0g way hx.2 hs D0 zA zD).mono λv V1 _ ⟨r,hv,hR⟩=>⟨r,hv,?_⟩
   rw[if_pos hA]
   rcases hw with rfl|rfl
   . rw[if_pos rfl,(hR.down rfl).unique D0 (J05 D0),H0k]
   . rw[if_neg (by decide),(hR.up rfl).unique D0 (K08 D0),H0k]
 . have hA:A<0:=by rw[hx.1]at h; simpa using h
   have n0:A.natAbs≠0:=by omega
   have hnA:¬0<=A:=by omega
   refine⟨λ_ => ?_,λh2 => ?_⟩
   . have hw2:i64.wrap (1-way)=1-way:=i64w (by omega) (by omega)
     rw[hw2,if_neg hnA]
     refine C0p (Q:=λv _=>v = .float .f64 (F05 (if way=0 then -(upK A.natAbs D:Int)else -(O0a A.natAbs D:Int)))) (R:=λr=>Rnd (1-way) r A.natAbs D) n0 D0 ((Q0g (1-way) hx.2 hs D0 zA zD).mono λv V1 _ ⟨r,hv,hR⟩=>⟨r,hv,hR.any,hR⟩) λr V' hR hr => ?_
     have hrv:(r:Int)=if way=0 then(upK A.natAbs D:Int)else(O0a A.natAbs D:Int):=by
      rcases hw with rfl|rfl
      . rw[if_pos rfl,(hR.up (by decide)).unique D0 (K08 D0)]
      . rw[if_neg (by decide),(hR.down (by decide)).unique D0 (J05 D0)]
     have e:(if way=0 then -(upK A.natAbs D:Int)else -(O0a A.natAbs D:Int)) = -(r:Int):=by
      rw[hrv]; split<;>rfl
     rw[e]
     refine⟨λh0 => ?_,λh0 => ?_⟩
     . rw[i0s h0]
     . rw[h0]; rfl
   . exfalso
     have h2:way=2:=by simpa using h2
     omega
theorem C0n(z:Cq):z.re.num*(z.D:Int)=z.A*(z.re.den:Int):=by
 have h:=z.canon.rep
 have h1:((z.re.num:Int):Rat) / ((z.re.den:Nat):Rat)=(z.A:Rat) / (z.D:Rat):=by
  rw[<-h.re,<-Rat.mkRat_eq_div]; exact Rat.mkRat_self z.re
 exact(K01 z.re.den_nz h.pos).1 h1
theorem u0i(z:Cq):0<=z.A↔0<=z.re.num:=by
 have h:=C0n z
 have h1:(0:Int)<(z.D:Int):=by have:=z.canon.rep.pos; omega
 have h2:(0:Int)<(z.re.den:Int):=by have:=z.re.den_nz; omega
 constructor
 . intro g
   refine Int.not_lt.1 λc => ?_
   have a:=Int.mul_neg_of_neg_of_pos c h1
   have b:=Int.mul_nonneg g (Int.le_of_lt h2)
   omega
 . intro g
   refine Int.not_lt.1 λc => ?_
   have a:=Int.mul_neg_of_neg_of_pos c h2
   have b:=Int.mul_nonneg g (Int.le_of_lt h1)
   omega
theorem O0u(z:Cq):z.A.natAbs*z.re.den=z.re.num.natAbs*z.D:=by
 have h:=congrArg Int.natAbs (C0n z)
 rw[Int.natAbs_mul,Int.natAbs_mul,Int.natAbs_natCast,Int.natAbs_natCast]at h
 exact h.symm
theorem j0s(z:Cq):O0a z.A.natAbs z.D=O0a z.re.num.natAbs z.re.den:=by
 have d1:0<z.D:=by have:=z.canon.rep.pos; omega
 have d2:0<z.re.den:=by have:=z.re.den_nz; omega
 exact((J05 d1).congr d1 d2 (O0u z)).unique d2 (J05 d2)
theorem n0x(z:Cq):upK z.A.natAbs z.D=upK z.re.num.natAbs z.re.den:=by
 have d1:0<z.D:=by have:=z.canon.rep.pos; omega
 have d2:0<z.re.den:=by have:=z.re.den_nz; omega
 exact((K08 d1).congr d1 d2 (O0u z)).unique d2 (K08 d2)
theorem e0f{V:View}:a00 prog m0j #[] V λv _=>v=(U07.mk 53 (-1074) 1023).val:=D0h V _ rfl
theorem D0p{V:View}{x:NumV}{z:Cq}(hx:N00 V x z)(hz:z.sz<=2^30):a00 prog z0l #[x.val] V λv _=>v = .float .f64 (F05 (S08 z.re)):=by
 have zA:=z.szA; have zD:=z.szD
 refine C0j x V _ (e0f.mono λv V1 l1 hv=>⟨_,hv,(i01 (hx.le l1)).mono λv V2 l2 ⟨s,hv,hs⟩=>⟨s,hv,?_⟩⟩)
 refine(d0f (way:=0) (.inl rfl) ((hx.le (View.le_trans l1 l2)).re) hs (by have:=z.canon.rep.pos; omega) (by omega) (by omega)).mono λv V3 _ hv=>⟨_,hv,?_⟩
 unfold S08
 rw[j0s z,n0x z]
 by_cases c:0<=z.A
 . rw[if_pos c,if_pos ((u0i z).1 c),if_pos rfl]
 . rw[if_neg c,if_neg (λg=>c ((u0i z).2 g)),if_pos rfl]
theorem S0g{V:View}{x:NumV}{z:Cq}(hx:N00 V x z)(hz:z.sz<=2^30):a00 prog A0l #[x.val] V λv _=>v = .float .f64 (F05 (p0a z.re)):=by
 have zA:=z.szA; have zD:=z.szD
 refine D0j x V _ (e0f.mono λv V1 l1 hv=>⟨_,hv,(i01 (hx.le l1)).mono λv V2 l2 ⟨s,hv,hs⟩=>⟨s,hv,?_⟩⟩)
 refine(d0f (way:=1) (.inr rfl) ((hx.le (View.le_trans l1 l2)).re) hs (by have:=z.canon.rep.pos; omega) (by omega) (by omega)).mono λv V3 _ hv=>⟨_,hv,?_⟩
 unfold p0a
 rw[j0s z,n0x z]
 by_cases c:0<=z.A
 . rw[if_pos c,if_pos ((u0i z).1 c),if_neg (by decide)]
 . rw[if_neg c,if_neg (λg=>c ((u0i z).2 g)),if_neg (by decide)]
theorem c0h(a b:Rat):(⟨a,0⟩:Cq)*⟨b,0⟩=⟨a*b,0⟩:=Cq.ext' (by rw[T02]; grind) (by rw[U02]; grind)
theorem d0h(a b:Rat):(⟨a,0⟩:Cq)+⟨b,0⟩=⟨a+b,0⟩:=Cq.ext' (by rw[c04]) (by rw[d04]; grind)
theorem e0h(a:Rat) : -(⟨a,0⟩:Cq)=⟨-a,0⟩:=Cq.ext' (by rw[i06]) (by rw[j06]; grind)
theorem o0x(x:Nat):fq x=fkq (key x):=rfl
theorem a0w:fq 0=0:=by
 unfold fq
 have:kz (key 0)=0:=by decide
 rw[this]; rw[Rat.div_def]; exact Rat.zero_mul _
structure BdAt (V:View) (b:BdV) (e:Eb):Prop where
 inf:b.inf=e.inf
 num:N00 V b.x e.num
 ok:e.ok
theorem BdAt.le{V V':View}{b:BdV}{e:Eb}(hle:V.le V')(h:BdAt V b e):BdAt V' b e:=⟨h.inf,h.num.le hle,h.ok⟩
theorem BdAt.range{V:View}{b:BdV}{e:Eb}(h:BdAt V b e):e.inf=0\/e.inf=1\/e.inf = -1:=by
 rcases h.ok with h|⟨_,h⟩
 . exact .inl h
 . exact .inr h
theorem BdAt.zero(V:View):BdAt V (BdV.mk 0 (NumV.mk (WhV.mk false (Sl.mk none 0 0)) (WhV.mk false (Sl.mk none 0 0)) (Sl.mk none 0 0))) (Eb.fin 0):=⟨rfl,N00.zero V,.inl rfl⟩
theorem BdAt.infty(V:View){i:Int}(h:i=1\/i = -1):BdAt V (BdV.mk i (NumV.mk (WhV.mk false (Sl.mk none 0 0)) (WhV.mk false (Sl.mk none 0 0)) (Sl.mk none 0 0))) ⟨i,0⟩:=⟨rfl,N00.zero V,.inr ⟨rfl,h⟩⟩
theorem BdAt.signs(V:View){i:Int}(h:(⟨i,0⟩:Eb).ok):BdAt V (BdV.mk i (NumV.mk (WhV.mk false (Sl.mk none 0 0)) (WhV.mk false (Sl.mk none 0 0)) (Sl.mk none 0 0))) ⟨i,0⟩:=⟨rfl,N00.zero V,h⟩
theorem k0s{r:Nat}(h:r<=infR):rm r<2^2099:=by
 have h1:rm r<=rm infR:=z09.2 h
 obtain⟨e,he⟩:∃e,e=2046:=⟨_,rfl⟩
 rw[b0i he]at h1
 exact Nat.lt_of_le_of_lt h1 (a0r (a:=52+e) (b:=2099) (by omega))
theorem l0s(D:Nat):(0:Rat)=((0:Int):Rat) / (D:Rat):=by simp[Rat.div_def]
theorem p0x{k:Int}(h:inK k):(⟨fkq k,0⟩:Cq).sz<=2100:=by
 have R:Rep ⟨fkq k,0⟩ (kz k) 0 (2^1074):=⟨X0r,rfl,l0s _⟩
 have hk:(kz k).natAbs=rm k.natAbs:=by unfold kz; split<;>omega
 refine R.sz ?_ (by simp[t09]) ?_
 . rw[hk]
   have h2:k.natAbs<=infR:=by unfold inK at h; omega
   have:=W03 (k0s h2)
   omega
 . have:=O06 1074; omega
theorem m0s{k:Int}(h:inK k):(endE k).num.sz<=2100:=by
 have z:(Cq.zero).sz<=2100:=Nat.le_trans P06 (by omega)
 unfold endE Eb.num
 split
 . exact z
 . split
   . exact z
   . exact p0x h
theorem z0m{V:View}{x:Nat}(h:finW x):a00 prog F0l #[.float .f64 x] V λv V'=>∃r:NumV,v=r.val/\N00 V' r ⟨fkq (key x),0⟩:=by
 refine F0j x V _ ((B0k (c:=CxV.mk x 0) h (show finW 0 from⟨by decide,by decide⟩)).mono λv V1 _ ⟨r,hv,hr⟩=>⟨r,0,hv,r,rfl,?_⟩)
 have hr:N00 V1 r ⟨fq x,fq 0⟩:=hr
 rw[a0w,o0x]at hr; exact hr
theorem D0n{V:View}{x:Nat}(h:okW x):a00 prog A0q #[.float .f64 x] V λv V'=>∃b:BdV,v=b.val/\BdAt V' b (endE (key x)):=by
 have hk:=M0r h
 refine d0p x V _ ((w0n h.1).mono λv V1 _ hv=>⟨_,hv,λhc => ?_,λhc => ?_⟩)
 . have hc:key x=(infR:Int):=by simp only[decide_eq_true_eq]at hc; exact hc.2
   refine⟨_,rfl,?_⟩
   unfold endE; rw[if_pos hc]; exact .infty V1 (.inl rfl)
 have hc:key x≠(infR:Int):=by simp only[decide_eq_false_iff_not]at hc; exact λe=>hc ⟨h,e⟩
 refine(L0g h.1).mono λv V2 _ hv=>⟨_,hv,λhd => ?_,λhd => ?_⟩
 . have hd:key x = -(infR:Int):=by simp only[decide_eq_true_eq]at hd; exact hd.2
   refine⟨_,rfl,?_⟩
   unfold endE; rw[if_neg hc,if_pos hd]; exact .infty V2 (.inr rfl)
 have hd:key x ≠ -(infR:Int):=by simp only[decide_eq_false_iff_not]at hd; exact λe=>hd ⟨h,e⟩
 have hf:finW x:=by
  refine⟨h.1,?_⟩
  have a:=Y0h h.1
  have:(key x).natAbs<infR:=by omega
  omega
 refine(z0m hf).mono λv V3 _ ⟨r,hv,hr⟩=>⟨r,hv,_,rfl,?_⟩
 unfold endE; rw[if_neg hc,if_neg hd]; exact⟨rfl,hr,.inl rfl⟩
theorem o0d{V:View}(a b:Int):a00 prog m0b #[.int .i64 a,.int .i64 b] V λv _=>v = .int .i64 (cmpZ a b):=by
 have nan:∀ {V:View} (a:Int),a00 prog x0d #[.int .i64 a] V λv _=>v = .bool false:=λa=>s0c a _ _ (by simp)
 refine H0a a b V _ ((nan a).mono λv V1 _ hv=>⟨_,hv,(nan b).mono λv V2 _ hv=>⟨_,hv,λh=>absurd h (by simp),λ_=>⟨λh=>absurd h (by simp),λ_=>⟨λh => ?_,λh=>⟨λh' => ?_,λh' => ?_⟩⟩⟩⟩⟩)
 . rw[P0q (by simpa using h)]
 . rw[S0q (by simpa using h')]
 . simp only[decide_eq_false_iff_not]at h h'
   rw[Q0q (by omega)]
theorem b0w(x y:Rat):(⟨x,0⟩:Cq).cmp ⟨y,0⟩=cmpR x y:=by
 unfold Cq.cmp
 dsimp only
 by_cases c:cmpR x y=0
 . rw[c]; rw[if_neg (by simp)]; unfold cmpR; rw[if_neg (by grind),if_pos rfl]
 . rw[if_pos c]
theorem w0a{V:View}{a b:BdV}{e f:Eb}(ha:BdAt V a e)(hb:BdAt V b f)(hz:e.num.sz<=2^40)(hw:f.num.sz<=2^40) :
 a00 prog E0l #[a.val,b.val] V λv _=>v = .int .i64 (e.cmp f):=by
 have ia:=ha.inf
 have ib:=hb.inf
 refine G0j a b V _ ⟨λh => ?_,λh=>⟨λh' => ?_,λh' => ?_⟩⟩
 . have h:e.inf≠0:=by rw[<-ia]; simpa using h
   refine(o0d a.inf b.inf).mono λv V1 _ hv=>⟨_,hv,?_⟩
   unfold Eb.cmp; rw[if_pos (.inl h),ia,ib]
 . have h':f.inf≠0:=by rw[<-ib]; simpa using h'
   refine(o0d a.inf b.inf).mono λv V1 _ hv=>⟨_,hv,?_⟩
   unfold Eb.cmp; rw[if_pos (.inr h'),ia,ib]
 . have h:e.inf=0:=by rw[<-ia]; simpa using h
   have h':f.inf=0:=by rw[<-ib]; simpa using h'
   refine(g06 ha.num hb.num hz hw).mono λv V1 _ hv=>⟨_,hv,?_⟩
   unfold Eb.cmp; rw[if_neg (by rw[h,h']; simp)]
   exact congrArg _ (b0w e.x f.x)
theorem n0s:(Eb.fin 0).num.sz<=1:=P06
theorem K04{V:View}{a:BdV}{e:Eb}(ha:BdAt V a e)(hz:e.num.sz<=2^40):a00 prog n09 #[a.val] V λv _=>v = .int .i64 e.sign :=
 L0h a V _ ((w0a ha (BdAt.zero V) hz (Nat.le_trans n0s (by decide))).mono λv V1 _ hv=>⟨_,hv,rfl⟩)
theorem L0f{V:View}{a:BdV}{e:Eb}(ha:BdAt V a e):a00 prog I0l #[a.val] V λv V'=>∃b:BdV,v=b.val/\BdAt V' b e.neg:=by
 refine H0j a V _ ((m0d ha.num).mono λv V1 _ ⟨r,hv,hr⟩=>⟨r,hv,_,rfl,?_⟩)
 have ia:=ha.inf
 have hr':=ha.range
 have e1:i64.wrap (0-a.inf) = -e.inf:=by rw[i64w (by omega) (by omega)]; omega
 refine⟨e1,?_,Eb.neg_ok ha.ok⟩
 have : -e.num=e.neg.num:=e0h e.x
 rw[<-this]; exact hr
theorem x0a{V:View}{a b:BdV}{e f:Eb}(ha:BdAt V a e)(hb:BdAt V b f)(hz:e.num.sz<=2^40)(hw:f.num.sz<=2^40) :
 a00 prog B0l #[a.val,b.val] V λv V'=>∃c:BdV,v=c.val/\BdAt V' c (e.add f):=by
 have ia:=ha.inf
 have ib:=hb.inf
 refine I0j a b V _ ⟨λh => ?_,λh=>⟨λh' => ?_,λh' => ?_⟩⟩
 . have h:e.inf≠0:=by rw[<-ia]; simpa using h
   refine⟨a,rfl,?_⟩
   unfold Eb.add; rw[if_pos h]; exact ha
 . have h:e.inf=0:=by rw[<-ia]; simpa using h
   have h':f.inf≠0:=by rw[<-ib]; simpa using h'
   refine⟨b,rfl,?_⟩
   unfold Eb.add; rw[if_neg (by rw[h]; simp),if_pos h']; exact hb
 . have h:e.inf=0:=by rw[<-ia]; simpa using h
   have h':f.inf=0:=by rw[<-ib]; simpa using h'
   refine(J04 ha.num hb.num hz hw).mono λv V1 _ ⟨r,hv,hr⟩=>⟨r,hv,_,rfl,?_⟩
   unfold Eb.add; rw[if_neg (by rw[h]; simp),if_neg (by rw[h']; simp)]
   refine⟨rfl,?_,.inl rfl⟩
   have:e.num+f.num=(⟨0,e.x+f.x⟩:Eb).num:=d0h e.x f.x
   rw[<-this]; exact hr
theorem y0a{V:View}{a b:BdV}{e f:Eb}(ha:BdAt V a e)(hb:BdAt V b f)(hz:e.num.sz<=2^40)(hw:f.num.sz<=2^40) :
 a00 prog C0l #[a.val,b.val] V λv V'=>∃c:BdV,v=c.val/\BdAt V' c (e.mul f):=by
 have ia:=ha.inf
 have ib:=hb.inf
 have key:¬(e.inf=0/\f.inf=0)->∀ {W:View},V.le W->a00 prog n09 #[a.val] W λv V2=>∃r2:Int,v = .int .i64 r2/\a00 prog n09 #[b.val] V2 λv V3=>∃r3:Int,v = .int .i64 r3 /\
  ∃c:BdV,(BdV.mk (i64.wrap (r2*r3)) (NumV.mk (WhV.mk false (Sl.mk none 0 0)) (WhV.mk false (Sl.mk none 0 0)) (Sl.mk none 0 0))).val=c.val/\BdAt V3 c (e.mul f):=by
  intro hn W hle
  refine(K04 (ha.le hle) hz).mono λv V2 l2 hv=>⟨_,hv,(K04 (hb.le (View.le_trans hle l2)) hw).mono λv V3 _ hv=>⟨_,hv,_,rfl,?_⟩⟩
  have r1:e.sign = -1\/e.sign=0\/e.sign=1:=Eb.cmp_range _ _
  have r2:f.sign = -1\/f.sign=0\/f.sign=1:=Eb.cmp_range _ _
  have hm:=Eb.mul_ok e f
  unfold Eb.mul at hm ⊢
  rw[if_neg hn]at hm ⊢
  have:i64.wrap (e.sign*f.sign)=e.sign*f.sign:=by
   rcases r1 with r1|r1|r1<;>rcases r2 with r2|r2|r2<;>rw[r1,r2]<;>decide
  rw[this]; exact .signs V3 hm
 refine J0j a b V _ ⟨λh=>⟨λh' => ?_,λh' => ?_⟩,λh => ?_⟩
 . have h:e.inf=0:=by rw[<-ia]; simpa using h
   have h':f.inf=0:=by rw[<-ib]; simpa using h'
   refine(p03 ha.num hb.num hz hw).mono λv V1 _ ⟨r,hv,hr⟩=>⟨r,hv,_,rfl,?_⟩
   unfold Eb.mul; rw[if_pos ⟨h,h'⟩]
   refine⟨rfl,?_,.inl rfl⟩
   have:e.num*f.num=(⟨0,e.x*f.x⟩:Eb).num:=c0h e.x f.x
   rw[<-this]; exact hr
 . have h':f.inf≠0:=by rw[<-ib]; simpa using h'
   exact key (λg=>h' g.2) (View.le_refl V)
 . have h:e.inf≠0:=by rw[<-ia]; simpa using h
   exact key (λg=>h g.1) (View.le_refl V)
theorem E0p(e:Eb):e.neg.num.sz=e.num.sz:=by
 have : -e.num=e.neg.num:=e0h e.x
 rw[<-this]; exact o0f _
theorem T0g(e f:Eb):(e.add f).num.sz<=e.num.sz+f.num.sz+1:=by
 unfold Eb.add; split
 . omega
 . split
   . omega
   . have:e.num+f.num=(⟨0,e.x+f.x⟩:Eb).num:=d0h e.x f.x
     rw[<-this]; exact b0c _ _
theorem U0g(e f:Eb):(e.mul f).num.sz<=e.num.sz+f.num.sz+1:=by
 unfold Eb.mul; split
 . have:e.num*f.num=(⟨0,e.x*f.x⟩:Eb).num:=c0h e.x f.x
   rw[<-this]; exact y03 _ _
 . exact Nat.le_trans P06 (by omega)
def bdC(V:View)(x:List Value)(e:Eb):Prop:=∃b:BdV,x=b.val.cells.toList/\BdAt V b e
theorem bdC.le{V V':View}(hle:V.le V')(x:List Value)(e:Eb)(h:bdC V x e):bdC V' x e:=by
 obtain⟨b,e1,hb⟩:=h; exact⟨b,e1,hb.le hle⟩
def A0m(V:View)(s:Sl)(es:List Eb):Prop:=B00 6 bdC V s es
theorem A0m.le{V V':View}(hle:V.le V'){s:Sl}{es:List Eb}(h:A0m V s es):A0m V' s es:=B00.le (bdC.le hle) hle h
theorem F0p{V:View}{a b:BdV}{e f:Eb}{p:Option Addr}{way:Int}(ha:BdAt V a e)(hb:BdAt V b f)(hz:e.num.sz<=2^40)(hw:f.num.sz<=2^40)(hp:V.load p=some (.int .i64 way)) :
 a00 prog l0j #[a.val,b.val,.pointer p] V λv _=>v = .bool (decide (e.cmp f=way)) :=
 M0h a b p V _ ⟨way,hp,(w0a ha hb hz hw).mono λv V1 _ hv=>⟨_,hv,by
  congr 1⟩⟩
theorem T0b(way:Int):∀ {es:List Eb} {i:Nat} (h:i+1<es.length),Eb.pick way (es.take (i+2))=if Eb.cmp es[i+1] (Eb.pick way (es.take (i+1)))=way then es[i+1]else Eb.pick way (es.take (i+1))
 | [],_,h=>by simp at h
 | e::es,i,h=>by
   have hi:i<es.length:=by simpa using h
   have e1:(e::es).take (i+2)=e::es.take (i+1):=rfl
   have e2:(e::es).take (i+1)=e::es.take i:=rfl
   have e3:es.take (i+1)=es.take i++[es[i]]:=by rw[List.take_add_one]; simp[hi]
   have e4:(e::es)[i+1]=es[i]:=rfl
   rw[e1,e2,e3,e4]
   show List.foldl _ e (es.take i++[es[i]])=_
   rw[List.foldl_append]; rfl
theorem d0u(a:Option Addr)(k:Nat):Option.map (λq=>Addr.add q (Int.toNat (k:Int)*6)) (Option.map (λq=>Addr.add q (Int.toNat 1*6)) a)=Option.map (λq=>Addr.add q ((k+1)*6)) a:=by
 rw[Option.map_map]
 congr 1
 funext q
 show(q.add (Int.toNat 1*6)).add (Int.toNat (k:Int)*6)=_
 rw[u09,Int.toNat_natCast]
 congr 1
 show 1*6+k*6=(k+1)*6
 omega
theorem I0k{V:View}{s:Sl}{es:List Eb}{way:Int}(h:A0m V s es)(h0:es≠[])(hn:es.length<=2^32)(hS:∀e∈es,e.num.sz<=2^40) :
 a00 prog D0o #[.int .i64 way,s.v] V λv V'=>∃b:BdV,v=b.val/\BdAt V' b (Eb.pick way es):=by
 have hl:=h.len
 have hcap:=h.cap
 have h1:1<=es.length:=by
  rcases Nat.eq_zero_or_pos es.length with c|c
  . exact absurd (List.eq_nil_of_length_eq_zero c) h0
  . exact c
 refine d0m way s V _ (λ_ x V'=>∃i:Nat,x.t16=i/\i+1<=es.length/\BdAt V' x.o6 (Eb.pick way (es.take (i+1)))/\(Eb.pick way (es.take (i+1))).num.sz<=2^40) (λ_ x _=>(es.length-x.t16).toNat) ?_
 intro b1 V1 l1 hb1
 obtain⟨hb,x,⟨b0,hx,hb0⟩,_,hh,hs⟩:=B00.get (h.le l1) (t:=0) (by omega) (z:=es[0]) (by simp)
 refine⟨hb,b0,hx▸hh,hs,⟨by omega,by omega,by omega⟩,⟨0,rfl,h1,?_,?_⟩,?_⟩
 . have:es.take (0+1)=[es[0]]:=by
     cases es with
     | nil=>simp at h1
     | cons e es=>simp
   rw[this]; exact hb0
 . have:es.take (0+1)=[es[0]]:=by
     cases es with
     | nil=>simp at h1
     | cons e es=>simp
   rw[this]; exact hS _ (List.getElem_mem _)
 rintro⟨t,o4,o6⟩ V2 l2 ⟨i,rfl,hi,ho,hz⟩
 dsimp only at ho hz ⊢
 have hlen:((((((s.len:Nat):Int)).toNat-Int.toNat 1:Nat):Int))=(es.length:Int)-1:=by rw[Int.toNat_natCast,hl]; show((es.length-1:Nat):Int)=_; omega
 rw[hlen]
 refine⟨λhlt => ?_,λhge => ?_⟩
 . simp only[decide_eq_true_eq]at hlt
   have hi2:i+1<es.length:=by omega
   have hc1:¬s.cap=Int.toNat 1:=by show ¬s.cap=1; omega
   rw[if_neg hc1,d0u]
   obtain⟨hb',x',⟨b',hx',hb''⟩,_,hh',hs'⟩:=B00.get (h.le (View.le_trans l1 l2)) (t:=((i+1:Nat):Int)) (by omega) (z:=es[i+1]) (by rw[Int.toNat_natCast]; simp[hi2])
   rw[Int.toNat_natCast]at hh' hs'
   have hsm:(Option.map (λq=>Addr.add q (Int.toNat 1*6)) s.a).isSome=true:=by
    have:=hb'.2.2
    rw[Option.isSome_map]; exact this
   refine⟨⟨by omega,by omega,hsm⟩,b',hx'▸hh',hs',?_⟩
   have hp:V2.load (some (Addr.mk b1 0 none))=some (.int .i64 way):=q03 l2 (by simp[View.load,hb1])
   refine(F0p hb'' ho (hS _ (List.getElem_mem _)) hz hp).mono λv V3 l3 hv=>⟨_,hv,λhc => ?_,λhc => ?_⟩
   . simp only[decide_eq_true_eq]at hc
     rw[i64w (by omega) (by omega)]
     refine⟨⟨i+1,by omega,by omega,?_,?_⟩,by omega⟩
     . rw[T0b way hi2,if_pos hc]; exact hb''.le l3
     . rw[T0b way hi2,if_pos hc]; exact hS _ (List.getElem_mem _)
   . simp only[decide_eq_false_iff_not]at hc
     rw[i64w (by omega) (by omega)]
     refine⟨⟨i+1,by omega,by omega,?_,?_⟩,by omega⟩
     . rw[T0b way hi2,if_neg hc]; exact ho.le l3
     . rw[T0b way hi2,if_neg hc]; exact hz
 . simp only[decide_eq_false_iff_not]at hge
   have:i+1=es.length:=by omega
   rw[this,List.take_length]at ho
   exact⟨_,rfl,ho⟩
theorem I0c{V:View}{s:Sl}{es:List Eb}(h:A0m V s es)(h0:es≠[])(hn:es.length<=2^32)(hS:∀e∈es,e.num.sz<=2^40) :
 a00 prog x0l #[s.v] V λv V'=>∃b:BdV,v=b.val/\BdAt V' b (Eb.pick (-1) es) :=
 K0j s V _ ((I0k h h0 hn hS).mono λ_ _ _ ⟨b,hv,hb⟩=>⟨b,hv,b,rfl,hb⟩)
theorem J06{V:View}{s:Sl}{es:List Eb}(h:A0m V s es)(h0:es≠[])(hn:es.length<=2^32)(hS:∀e∈es,e.num.sz<=2^40) :
 a00 prog z0f #[s.v] V λv V'=>∃b:BdV,v=b.val/\BdAt V' b (Eb.pick 1 es) :=
 w0e s V _ ((I0k h h0 hn hS).mono λ_ _ _ ⟨b,hv,hb⟩=>⟨b,hv,b,rfl,hb⟩)
structure EsAt (V:View) (s:SetV) (e:Es):Prop where
 lo:BdAt V s.lo e.lo
 hi:BdAt V s.hi e.hi
theorem EsAt.le{V V':View}{s:SetV}{e:Es}(hle:V.le V')(h:EsAt V s e):EsAt V' s e:=⟨h.lo.le hle,h.hi.le hle⟩
def Es.szle(e:Es)(S:Nat):Prop:=e.lo.num.sz<=S/\e.hi.num.sz<=S
theorem p0d{V:View}{s t:SetV}{e f:Es}(h:EsAt V s e)(k:EsAt V t f){S:Nat}(he:Es.szle e S)(hf:Es.szle f S)(hS:S<=2^30) :
 a00 prog t0q #[s.val,t.val] V λv V'=>∃r:SetV,v=r.val/\EsAt V' r (e.add f) :=
 e0p s t V _ ((x0a h.lo k.lo (by have:=he.1; omega) (by have:=hf.1; omega)).mono λv V1 l1 ⟨a,hv,ha⟩=>⟨a,hv,
  (x0a (h.hi.le l1) (k.hi.le l1) (by have:=he.2; omega) (by have:=hf.2; omega)).mono λv V2 l2 ⟨b,hv,hb⟩=>⟨b,hv,_,rfl,ha.le l2,hb⟩⟩)
theorem B0m{way:Int}{es:List Eb}{S:Nat}(h0:es≠[])(h:∀e∈es,e.num.sz<=S):(Eb.pick way es).num.sz<=S:=by
 cases es with
 | nil=>exact absurd rfl h0
 | cons e es =>
   show(List.foldl (λo x=>if x.cmp o=way then x else o) e es).num.sz<=S
   rcases Eb.pick_mem way es e with g|g
   . rw[g]; exact h e (by simp)
   . exact h _ (by simp[g])
theorem w0i{V:View}{s:SetV}{e:Es}(h:EsAt V s e){S:Nat}(he:Es.szle e S)(hS:S<=2^30):a00 prog G0o #[s.val] V λv _=>v = .bool e.zero:=by
 have a:=he.1; have b:=he.2
 refine e0m s V _ ((K04 h.lo (by omega)).mono λv V1 l1 hv=>⟨_,hv,λhc => ?_,λhc => ?_⟩)
 . refine(K04 (h.hi.le l1) (by omega)).mono λv V2 _ hv=>⟨_,hv,?_⟩
   unfold Es.zero; rw[hc]; rfl
 . unfold Es.zero; rw[hc]; rfl
theorem E0n:18442240474082181120=F05 (-(infR:Int)):=by decide
theorem P0u:infR=F05 (infR:Int):=by decide
theorem K06{V:View}{s:SetV}{e:Es}(h:EsAt V s e){S:Nat}(he:Es.szle e S)(hS:S<=2^30):a00 prog z0o #[s.val] V λv _=>v=(Sk.v e.span).val:=by
 have a:=he.1; have b:=he.2
 have il:=h.lo.inf
 have ih:=h.hi.inf
 refine f0m s V _ (U0t.mono λv V1 l1 hv=>⟨_,hv,N0r.mono λv V2 l2 hv=>⟨_,hv,λh1 => ?_,λh1 => ?_⟩⟩)
 . have h1:e.lo.inf=0:=by rw[<-il]; simpa using h1
   refine(D0p (h.lo.num.le (View.le_trans l1 l2)) (by omega)).mono λv V3 l3 hv=>⟨_,hv,λh2 => ?_,λh2 => ?_⟩
   . have h2:e.hi.inf=0:=by rw[<-ih]; simpa using h2
     refine(S0g (h.hi.num.le (View.le_trans l1 (View.le_trans l2 l3))) (by omega)).mono λv V4 l4 hv=>⟨_,hv,?_⟩
     unfold Es.span Sk.v; rw[if_pos h1,if_pos h2]; rfl
   . have h2:e.hi.inf≠0:=by rw[<-ih]; simpa using h2
     unfold Es.span Sk.v; rw[if_pos h1,if_neg h2,<-P0u]; rfl
 . have h1:e.lo.inf≠0:=by rw[<-il]; simpa using h1
   refine⟨λh2 => ?_,λh2 => ?_⟩
   . have h2:e.hi.inf=0:=by rw[<-ih]; simpa using h2
     refine(S0g (h.hi.num.le (View.le_trans l1 l2)) (by omega)).mono λv V4 l4 hv=>⟨_,hv,?_⟩
     unfold Es.span Sk.v; rw[if_neg h1,if_pos h2,<-E0n]; rfl
   . have h2:e.hi.inf≠0:=by rw[<-ih]; simpa using h2
     unfold Es.span Sk.v; rw[if_neg h1,if_neg h2,<-P0u,<-E0n]
theorem W0g{V:View}{x:Nat}(h:okW x):a00 prog w0l #[.float .f64 x] V λv _=>v = .float .f64 (F05 (key x)):=by
 have z0:okW 0:=⟨by decide,by decide⟩
 have k0:key 0=0:=by decide
 refine E0j x V _ ⟨λhc => ?_,λhc => ?_⟩
 . rw[X0j h z0,k0]at hc
   have hc:key x=0:=by simpa using hc
   rw[hc]; rfl
 . rw[X0j h z0,k0]at hc
   have hc:¬key x=0:=by simpa using hc
   have:F05 (key x)=x:=Z0q h.1 (by rintro rfl; exact hc (by decide))
   rw[this]
theorem U0b{V:View}{x y:Nat}(hx:x<2^64)(hy:y<2^64):a00 prog x0f #[.float .f64 x,.float .f64 y] V λv _=>v = .tuple #[(mkS x y).v.val,.int .i64 (mkE x y)]:=by
 have bad:∀ {e:Int},mkE x y=e->e≠0->(Value.tuple #[(SpV.mk 0 0).val,.int .i64 e]) = .tuple #[(mkS x y).v.val,.int .i64 (mkE x y)]:=by
  intro e he h0
  unfold mkS; rw[he,if_neg h0,o0u]
 refine t0e x y V _ ((j0a hx).mono λv V1 _ hv=>⟨_,hv,λhc => ?_,λhc => ?_⟩)
 . have hc:¬okW x:=by simpa using hc
   exact bad (by unfold mkE; rw[if_pos (.inl hc)]) (by decide)
 have h1:okW x:=by simpa using hc
 refine(j0a hy).mono λv V2 _ hv=>⟨_,hv,λhc => ?_,λhc => ?_⟩
 . have hc:¬okW y:=by simpa using hc
   exact bad (by unfold mkE; rw[if_pos (.inr (.inl hc))]) (by decide)
 have h2:okW y:=by simpa using hc
 refine(w0n hx).mono λv V3 _ hv=>⟨_,hv,λhc => ?_,λhc => ?_⟩
 . have hc:key x=(infR:Int):=by simp only[decide_eq_true_eq]at hc; exact hc.2
   exact bad (by unfold mkE; rw[if_pos (.inr (.inr (.inl hc)))]) (by decide)
 have h3:¬key x=(infR:Int):=by simp only[decide_eq_false_iff_not]at hc; exact λe=>hc ⟨h1,e⟩
 refine(L0g hy).mono λv V4 _ hv=>⟨_,hv,λhc => ?_,λhc => ?_⟩
 . have hc:key y = -(infR:Int):=by simp only[decide_eq_true_eq]at hc; exact hc.2
   exact bad (by unfold mkE; rw[if_pos (.inr (.inr (.inr hc)))]) (by decide)
 have h4:¬key y = -(infR:Int):=by simp only[decide_eq_false_iff_not]at hc; exact λe=>hc ⟨h2,e⟩
 have hno:¬(¬okW x\/¬okW y\/key x=(infR:Int)\/key y = -(infR:Int)):=by
  rintro(h|h|h|h)
  . exact h h1
  . exact h h2
  . exact h3 h
  . exact h4 h
 refine⟨λhc => ?_,λhc => ?_⟩
 . rw[B0g h1 h2]at hc
   have hc:key y<key x:=by simpa using hc
   exact bad (by unfold mkE; rw[if_neg hno,if_pos hc]) (by decide)
 . rw[B0g h1 h2]at hc
   have hc:¬key y<key x:=by simpa using hc
   have he:mkE x y=0:=by unfold mkE; rw[if_neg hno,if_neg hc]
   refine(W0g h1).mono λv V5 _ hv=>⟨_,hv,(W0g h2).mono λv V6 _ hv=>⟨_,hv,?_⟩⟩
   unfold mkS; rw[he,if_pos rfl]; rfl
theorem N0d{V:View}{s:Sk}(h:s.ok):a00 prog A0o #[s.v.val] V λv V'=>∃r:SetV,v=r.val/\EsAt V' r s.set:=by
 refine b0m s.v V _ ((D0n (okK h.lo)).mono λv V1 _ ⟨a,hv,ha⟩=>⟨a,hv,(D0n (okK h.hi)).mono λv V2 l2 ⟨b,hv,hb⟩=>⟨b,hv,_,rfl,?_,?_⟩⟩)
 . rw[keyK h.lo]at ha; exact ha.le l2
 . rw[keyK h.hi]at hb; exact hb
theorem A07{s:Sk}(h:s.ok):Es.szle s.set 2100:=⟨m0s h.lo,m0s h.hi⟩
theorem o0s{V:View}{c d:CxV}(h1:c.re<2^64)(h2:c.im<2^64)(h3:d.re<2^64)(h4:d.im<2^64):a00 prog m0o #[.complex .f64 c.re c.im,.complex .f64 d.re d.im] V λv _=>v = .tuple #[(mkB c.re c.im d.re d.im).v.val,.int .i64 (mkBE c.re c.im d.re d.im)]:=by
 refine c0m c d V _ ((U0b h1 h3).mono λv V1 _ hv=>⟨_,_,hv,(U0b h2 h4).mono λv V2 _ hv=>⟨_,_,hv,λhc => ?_,λhc => ?_⟩⟩)
 . have hc:mkE c.re d.re=1:=by simpa using hc
   have e:mkBE c.re c.im d.re d.im=1:=by unfold mkBE; rw[if_pos (.inl hc)]
   unfold mkB; rw[e]; rfl
 have c1:¬mkE c.re d.re=1:=by simpa using hc
 refine⟨λhc => ?_,λhc => ?_⟩
 . have hc:mkE c.im d.im=1:=by simpa using hc
   have e:mkBE c.re c.im d.re d.im=1:=by unfold mkBE; rw[if_pos (.inr hc)]
   unfold mkB; rw[e]; rfl
 have c2:¬mkE c.im d.im=1:=by simpa using hc
 have hno:¬(mkE c.re d.re=1\/mkE c.im d.im=1):=by rintro(h|h); exact c1 h; exact c2 h
 refine⟨λhc => ?_,λhc => ?_⟩
 . have hc:mkE c.re d.re≠0:=by simpa using hc
   have e:mkBE c.re c.im d.re d.im=7:=by unfold mkBE; rw[if_neg hno,if_pos (.inl hc)]
   unfold mkB; rw[e]; rfl
 have c3:¬mkE c.re d.re≠0:=by simpa using hc
 refine⟨λhc => ?_,λhc => ?_⟩
 . have hc:mkE c.im d.im≠0:=by simpa using hc
   have e:mkBE c.re c.im d.re d.im=7:=by unfold mkBE; rw[if_neg hno,if_pos (.inr hc)]
   unfold mkB; rw[e]; rfl
 have c4:¬mkE c.im d.im≠0:=by simpa using hc
 have e:mkBE c.re c.im d.re d.im=0:=by unfold mkBE; rw[if_neg hno,if_neg]; rintro(h|h); exact c3 h; exact c4 h
 unfold mkB; rw[e]; rfl
theorem F0n{e f:Es}{S:Nat}(he:Es.szle e S)(hf:Es.szle f S):Es.szle (e.add f) (2*S+1):=by
 have a:=he.1; have b:=he.2; have c:=hf.1; have d:=hf.2
 have h1:=T0g e.lo f.lo; have h2:=T0g e.hi f.hi
 exact⟨show(e.lo.add f.lo).num.sz<=_ by omega,show(e.hi.add f.hi).num.sz<=_ by omega⟩
theorem U0a{V:View}{b:Nat}{r1 r2:BdV}{e1 e2:Eb}(h1:BdAt V r1 e1)(h2:BdAt V r2 e2)
 (hb:V b=some #[.int .i64 r1.inf,.bool r1.x.re.neg,r1.x.re.mag.v,.bool r1.x.im.neg,r1.x.im.mag.v,r1.x.under.v,.int .i64 r2.inf,.bool r2.x.re.neg,r2.x.re.mag.v,.bool r2.x.im.neg,r2.x.im.mag.v,r2.x.under.v]) :
 A0m V ⟨some ⟨b,0,none⟩,2,2⟩ [e1,e2] :=
 M05 (o:=r1.val.cells.toList++(r2.val.cells.toList++[])) hb ⟨_,_,rfl,rfl,⟨r1,rfl,h1⟩,_,_,rfl,rfl,⟨r2,rfl,h2⟩,rfl⟩ rfl
def T03(s t:Sk):Int:=if s.hi<t.lo then 1 else if t.hi<=s.lo then 2 else 0
theorem M09{V:View}{s t:Sk}(h:s.ok)(k:t.ok):a00 prog c0j #[s.v.val,t.v.val] V λv _=>v = .int .i64 (T03 s t):=by
 refine K0h s.v t.v V _ ⟨λhc => ?_,λhc=>⟨λhd => ?_,λhd => ?_⟩⟩
 . have hc:decide (s.hi<t.lo)=true:=by rw[<-ltK h.hi k.lo]; exact hc
   unfold T03; rw[if_pos (by simpa using hc)]
 . have hc:decide (s.hi<t.lo)=false:=by rw[<-ltK h.hi k.lo]; exact hc
   have hd:decide (t.hi<=s.lo)=true:=by rw[<-geK h.lo k.hi]; exact hd
   unfold T03; rw[if_neg (by simpa using hc),if_pos (by simpa using hd)]
 . have hc:decide (s.hi<t.lo)=false:=by rw[<-ltK h.hi k.lo]; exact hc
   have hd:decide (t.hi<=s.lo)=false:=by rw[<-geK h.lo k.hi]; exact hd
   unfold T03; rw[if_neg (by simpa using hc),if_neg (by simpa using hd)]
