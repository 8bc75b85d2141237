/- Part. -/
import Derived.Test.YtfdaofhjkdabbaaGreatPartC
import Derived.Deep.Slices
namespace Go.Proofs.YtfdaofhjkdabbaaGreat
open Go Go.Vc Go.Proofs
open Go.Proofs.Tryz (prog)
open Go.IntKind (i64 u64 u32 u8)
theorem m0h{V:View}{s t:Sl}{a b:Nat}(hs:o00 V s a)(ht:o00 V t b)(ha:wn a<=2^43)(hb:wn b<=2^43) :
 a00 prog k0x #[s.v,t.v] V λv V'=>∃r:Sl,v=r.v/\o00 V' r (Nat.gcd a b):=by
 refine w0v s t V _ (λ_ x V'=>∃a' b',o00 V' x.t0 a'/\o00 V' x.t1 b'/\wn a'<=2^43/\wn b'<=2^43/\Nat.gcd a' b'=Nat.gcd a b) (λ_ x V'=>Y0d V' x.t1) ⟨⟨a,b,hs,ht,ha,hb,rfl⟩,?_⟩
 rintro⟨x,y⟩ V1 l1 ⟨a',b',hx,hy,wa,wb,hg⟩
 simp only at hx hy ⊢
 have hyl:=hy.len
 refine⟨λhp => ?_,λhp => ?_⟩
 . simp only[gt_iff_lt,decide_eq_true_eq]at hp
   have hb0:b'≠0:=λe=>by rw[<-hy.len_zero]at e; omega
   refine(E08 hx hy wa hb0).mono λv V2 l2 ⟨q,r,hv,hq,hr⟩=>⟨q,r,hv,?_⟩
   have hlt:a'%b'<b':=Nat.mod_lt _ (by omega)
   have hwr:wn (a'%b')<=wn b':=H09 (Nat.le_of_lt hlt)
   refine⟨⟨b',a'%b',hy.le l2,hr,wb,by omega,?_⟩,?_⟩
   . rw[Nat.gcd_comm,<-Nat.gcd_rec,Nat.gcd_comm]; exact hg
   . rw[A08 hr,A08 hy]; exact hlt
 . simp only[gt_iff_lt,decide_eq_false_iff_not]at hp
   have hb0:b'=0:=hy.len_zero.1 (by omega)
   subst hb0
   rw[Nat.gcd_zero_right]at hg
   exact⟨x,rfl,by rw[<-hg]; exact hx⟩
theorem l03{V:View}{s:Sl}{n:Nat}(neg:Bool)(h:o00 V s n) :
 a00 prog n0b #[.bool neg,s.v] V λv V'=>∃r:WhV,v=r.val/\d02 V' r (if neg=true then -(n:Int)else n):=by
 have hl:=h.len_zero
 refine b0k neg s V _ ⟨λhn=>⟨_,rfl,?_,?_⟩,λhn=>⟨_,rfl,?_,?_⟩⟩
 . rw[if_pos hn]; simp only[gt_iff_lt,decide_eq_decide]; omega
 . rw[if_pos hn]; simpa using h
 . rw[if_neg (by simp[hn])]; symm; simp only[decide_eq_false_iff_not]; omega
 . rw[if_neg (by simp[hn])]; simpa using h
theorem n09{V:View}{n:Int}(h0 : -9223372036854775808<=n)(h1:n<=9223372036854775807) :
 a00 prog O0u #[.int .i64 n] V λv V'=>∃r:WhV,v=r.val/\d02 V' r n:=by
 refine a0s n V _ ⟨λhn => ?_,λhn => ?_⟩
 . simp only[decide_eq_true_eq]at hn
   have e:u64.wrap (0-u64.wrap n) = -n:=by rw[u64m,u64m]; omega
   rw[e]
   refine(K06 (by omega) (by omega)).mono λv V1 _ ⟨r,hv,hr⟩=>⟨r,hv,_,rfl,by simp[hn],?_⟩
   have e2:n.natAbs=(-n).toNat:=by omega
   rw[e2]; exact hr
 . simp only[decide_eq_false_iff_not]at hn
   rw[u64w (by omega) (by omega)]
   refine(K06 (by omega) (by omega)).mono λv V1 _ ⟨r,hv,hr⟩=>⟨r,hv,_,rfl,by simp[hn],?_⟩
   have e2:n.natAbs=n.toNat:=by omega
   rw[e2]; exact hr
theorem m03{V:View}{x:WhV}{a:Int}(h:d02 V x a) :
 a00 prog s0m #[x.val] V λv V'=>∃r:WhV,v=r.val/\d02 V' r (-a):=by
 refine c0k x V _ ((l03 (!x.neg) h.2).mono λv V1 _ ⟨r,hv,hr⟩=>⟨r,hv,r,rfl,?_⟩)
 have e:(if(!x.neg)=true then -(a.natAbs:Int)else(a.natAbs:Int)) = -a:=by
  rw[h.1]; simp only[Bool.not_eq_true',decide_eq_false_iff_not]; split<;>omega
 rw[e]at hr; exact hr
theorem w05{V:View}{x y:WhV}{a b:Int}(hx:d02 V x a)(hy:d02 V y b)(ha:wn a.natAbs<=2^43)(hb:wn b.natAbs<=2^43) :
 a00 prog M0o #[x.val,y.val] V λv V'=>∃r:WhV,v=r.val/\d02 V' r (a+b):=by
 have h1:=hx.1
 have h2:=hy.1
 refine J0m x y V _ ⟨λhs => ?_,λhs => ?_⟩
 . refine(n0q hx.2 hy.2 (by omega) (by omega)).mono λv V1 l1 ⟨r,hv,hr⟩=>⟨r,hv,?_⟩
   refine(l03 x.neg hr).mono λv V2 _ ⟨w,hv,hw⟩=>⟨w,hv,w,rfl,?_⟩
   have e:(if x.neg=true then -((a.natAbs+b.natAbs:Nat):Int)else((a.natAbs+b.natAbs:Nat):Int))=a+b:=by
    rw[h1,h2]at hs; rw[h1]
    by_cases p:a<0<;>by_cases q:b<0<;>simp[p,q]at hs ⊢<;>omega
   rw[e]at hw; exact hw
 . refine(C08 hx.2 hy.2 (by omega)).mono λv V1 l1 hv=>⟨_,hv,λhc => ?_,λhc => ?_⟩
   . have hc:b.natAbs<=a.natAbs:=by
       rcases Nat.lt_or_ge a.natAbs b.natAbs with h|h
       . rw[if_pos h]at hc; simp at hc
       . exact h
     refine(k0h (hx.2.le l1) (hy.2.le l1) (by omega) hc).mono λv V2 l2 ⟨r,hv,hr⟩=>⟨r,hv,?_⟩
     refine(l03 x.neg hr).mono λv V3 _ ⟨w,hv,hw⟩=>⟨w,hv,w,rfl,?_⟩
     have e:(if x.neg=true then -((a.natAbs-b.natAbs:Nat):Int)else((a.natAbs-b.natAbs:Nat):Int))=a+b:=by
      rw[h1,h2]at hs; rw[h1]
      by_cases p:a<0<;>by_cases q:b<0<;>simp[p,q]at hs ⊢<;>omega
     rw[e]at hw; exact hw
   . have hc:a.natAbs<=b.natAbs:=by
       rcases Nat.lt_or_ge b.natAbs a.natAbs with h|h
       . rw[if_neg (by omega),if_neg (by omega)]at hc; simp at hc
       . exact h
     refine(k0h (hy.2.le l1) (hx.2.le l1) (by omega) hc).mono λv V2 l2 ⟨r,hv,hr⟩=>⟨r,hv,?_⟩
     refine(l03 y.neg hr).mono λv V3 _ ⟨w,hv,hw⟩=>⟨w,hv,w,rfl,?_⟩
     have e:(if y.neg=true then -((b.natAbs-a.natAbs:Nat):Int)else((b.natAbs-a.natAbs:Nat):Int))=a+b:=by
      rw[h1,h2]at hs; rw[h2]
      by_cases p:a<0<;>by_cases q:b<0<;>simp[p,q]at hs ⊢<;>omega
     rw[e]at hw; exact hw
theorem N0t(x y a b:Int)(hx:x=if a<0 then -1 else 1)(hy:y=if b<0 then -1 else 1):a*b=x*y*(a.natAbs*b.natAbs:Nat):=by
 have ha:a=x*a.natAbs:=by rw[hx]; split<;>omega
 have hb:b=y*b.natAbs:=by rw[hy]; split<;>omega
 rw[Int.natCast_mul]
 conv=>lhs; rw[ha,hb]
 grind
theorem S04{V:View}{x y:WhV}{a b:Int}(hx:d02 V x a)(hy:d02 V y b)(ha:wn a.natAbs<=2^43)(hb:wn b.natAbs<=2^43) :
 a00 prog t0m #[x.val,y.val] V λv V'=>∃r:WhV,v=r.val/\d02 V' r (a*b):=by
 refine d0k x y V _ ((D08 hx.2 hy.2 (by omega) (by omega)).mono λv V1 l1 ⟨r,hv,hr⟩=>⟨r,hv,?_⟩)
 refine(l03 (!(x.neg==y.neg)) hr).mono λv V2 _ ⟨w,hv,hw⟩=>⟨w,hv,w,rfl,?_⟩
 have e:(if(!(x.neg==y.neg))=true then -((a.natAbs*b.natAbs:Nat):Int)else((a.natAbs*b.natAbs:Nat):Int))=a*b:=by
  rw[N0t _ _ a b rfl rfl,hx.1,hy.1]
  by_cases p:a<0<;>by_cases q:b<0<;>simp[p,q]
 rw[e]at hw; exact hw
theorem Y01{V:View}{x:WhV}{s:Sl}{a:Int}{n:Nat}(hx:d02 V x a)(hs:o00 V s n)(ha:wn a.natAbs<=2^43)(hb:wn n<=2^43) :
 a00 prog U0j #[x.val,s.v] V λv V'=>∃r:WhV,v=r.val/\d02 V' r (a*n):=by
 refine H0i x s V _ ((D08 hx.2 hs (by omega) (by omega)).mono λv V1 l1 ⟨r,hv,hr⟩=>⟨r,hv,?_⟩)
 refine(l03 x.neg hr).mono λv V2 _ ⟨w,hv,hw⟩=>⟨w,hv,w,rfl,?_⟩
 have e:(if x.neg=true then -((a.natAbs*n:Nat):Int)else((a.natAbs*n:Nat):Int))=a*n:=by
  conv=>rhs; rw[hx.val]
  rw[Int.natCast_mul]; split
  . rw[Int.neg_mul]
  . rfl
 rw[e]at hw; exact hw
theorem g08{V:View}{x y:WhV}{a b:Int}(hx:d02 V x a)(hy:d02 V y b)(ha:wn a.natAbs<=2^43)(hb:wn b.natAbs<=2^43) :
 a00 prog z0r #[x.val,y.val] V λv _=>v = .int .i64 (cmpZ a b):=by
 refine j0p x y V _ ((m03 hy).mono λv V1 l1 ⟨r,hv,hr⟩=>⟨r,hv,?_⟩)
 refine(w05 (hx.le l1) hr ha (by rw[Int.natAbs_neg]; exact hb)).mono λv V2 l2 ⟨w,hv,hw⟩=>⟨w,hv,λh => ?_,λh => ?_⟩
 . have:a + -b<0:=by have:=hw.1; rw[h]at this; simpa using this
   rw[s0n (by omega)]
 . have h1:¬a + -b<0:=by have:=hw.1; rw[h]at this; simpa using this
   have h2:=hw.2.len_zero
   by_cases e:a=b
   . have:w.mag.len=0:=h2.2 (by omega)
     rw[t0n e,this]; rfl
   . have:w.mag.len≠0:=λh=>by have:=h2.1 h; omega
     rw[u0n (by omega)]
     congr 1; split<;>omega
theorem I03{V:View}{x y:WhV}{s:Sl}{z:Cq}{a b:Int}{d:Nat}(hx:d02 V x a)(hy:d02 V y b)(hs:o00 V s d)(hz:Rep z a b d)(ha:wn a.natAbs<=2^43)(hb:wn b.natAbs<=2^43)(hd:wn d<=2^43) :
 a00 prog Y0u #[x.val,y.val,s.v] V λv V'=>∃r:NumV,v=r.val/\T00 V' r z:=by
 obtain⟨e1,e2,e3⟩:=hz.eqs
 have hp:=T0h a b hz.pos
 have d1:=E0c a b d
 have d2:=t0f a b d
 have d3:=U0i a b d
 refine b0s x y s V _ ((m0h hx.2 hy.2 ha hb).mono λv V1 l1 ⟨r1,hv,h1⟩=>⟨r1,hv,?_⟩)
 have hw1:wn (Nat.gcd a.natAbs b.natAbs)<=2^43:=by
  rcases Nat.eq_zero_or_pos a.natAbs with h|h
  . rw[h,Nat.gcd_zero_left]; exact hb
  . exact Nat.le_trans (H09 (Nat.le_of_dvd h (Nat.gcd_dvd_left _ _))) ha
 refine(m0h h1 (hs.le l1) hw1 hd).mono λv V2 l2 ⟨r2,hv,h2⟩=>⟨r2,hv,?_⟩
 have hg:Nat.gcd (Nat.gcd a.natAbs b.natAbs) d=gcd3 a b d:=rfl
 rw[hg]at h2
 refine(N0c h2).mono λv V3 l3 hv=>⟨_,hv,λhn => ?_,λhn => ?_⟩
 . have l13:=View.le_trans l1 (View.le_trans l2 l3)
   refine(E08 (hx.2.le l13) (h2.le l3) ha (by omega)).mono λv V4 l4 ⟨q1,m1,hv,hq1,_⟩=>⟨q1,m1,hv,?_⟩
   refine(E08 (hy.2.le (View.le_trans l13 l4)) (h2.le (View.le_trans l3 l4)) hb (by omega)).mono λv V5 l5 ⟨q2,m2,hv,hq2,_⟩=>⟨q2,m2,hv,?_⟩
   have l45:=View.le_trans l4 l5
   refine(E08 (hs.le (View.le_trans l13 l45)) (h2.le (View.le_trans l3 l45)) hd (by omega)).mono λv V6 l6 ⟨q3,m3,hv,hq3,_⟩=>⟨q3,m3,hv,?_⟩
   have f1:d02 V6 (WhV.mk x.neg q1) z.A:=⟨by rw[e1,I09 d1 hp]; exact hx.1,by rw[e1,p06 d1]; exact hq1.le (View.le_trans l5 l6)⟩
   have f2:d02 V6 (WhV.mk y.neg q2) z.B:=⟨by rw[e2,I09 d2 hp]; exact hy.1,by rw[e2,p06 d2]; exact hq2.le l6⟩
   refine(N0c hq3).mono λv V7 l7 hv=>⟨_,hv,λh=>⟨_,rfl,f1.le l7,f2.le l7,?_⟩,λh=>⟨_,rfl,f1.le l7,f2.le l7,?_⟩⟩
   . simp only[decide_eq_true_eq]at h
     rw[e3,if_pos h]; exact o00.zero V7
   . simp only[decide_eq_false_iff_not]at h
     rw[e3,if_neg h]; exact hq3.le l7
 . simp only[Bool.not_eq_false',decide_eq_true_eq]at hn
   rw[hn]at e1 e2 e3
   simp only[Int.natCast_one,Int.ediv_one]at e1 e2
   rw[Nat.div_one]at e3
   have l13:=View.le_trans l1 (View.le_trans l2 l3)
   refine(N0c (hs.le l13)).mono λv V7 l7 hv=>⟨_,hv,λh=>⟨_,rfl,?_,?_,?_⟩,λh=>⟨_,rfl,?_,?_,?_⟩⟩
   . rw[e1]; exact hx.le (View.le_trans l13 l7)
   . rw[e2]; exact hy.le (View.le_trans l13 l7)
   . simp only[decide_eq_true_eq]at h
     rw[e3,if_pos h]; exact o00.zero V7
   . rw[e1]; exact hx.le (View.le_trans l13 l7)
   . rw[e2]; exact hy.le (View.le_trans l13 l7)
   . simp only[decide_eq_false_iff_not]at h
     rw[e3,if_neg h]; exact hs.le (View.le_trans l13 l7)
theorem B01{V:View}{x:NumV}{z:Cq}(h:T00 V x z):a00 prog a0x #[x.val] V λv V'=>∃r:Sl,v=r.v/\o00 V' r z.D:=by
 have hu:=h.under
 have hl:=hu.len_zero
 have hD:=z.D_pos
 refine x0v x V _ ⟨λh0 => ?_,λh0 => ?_⟩
 . have h0:x.under.len=0:=by have:(x.under.len:Int)=0:=(by simpa using h0); omega
   intro b V1 l1 _ hb
   have hz:=hl.1 h0
   have h1:z.D=1:=by split at hz<;>omega
   refine⟨_,rfl,?_⟩
   rw[h1]
   have:dig 1=[1]:=by rw[T05 (by omega)]; simp[p04]
   unfold o00; rw[this]
   exact A01.of_block (by rw[hb]; rfl) rfl (Nat.le_refl _) (by intro d hd; simp at hd; omega)
 . have h0:x.under.len≠0:=by have:¬(x.under.len:Int)=0:=(by simpa using h0); omega
   refine⟨_,rfl,?_⟩
   have hz:¬(if z.D=1 then 0 else z.D)=0:=λe=>h0 (hl.2 e)
   split at hz
   . omega
   . rename_i h1; rw[if_neg h1]at hu; exact hu
theorem F08{V:View}{n:Int}(h0 : -9223372036854775808<=n)(h1:n<=9223372036854775807) :
 a00 prog E0o #[.int .i64 n] V λv V'=>∃r:NumV,v=r.val/\T00 V' r ⟨(n:Rat),0⟩:=by
 obtain⟨e1,e2,e3⟩:=m0a n
 refine y0v n V _ ((n09 h0 h1).mono λv V1 _ ⟨r,hv,hr⟩=>⟨r,hv,_,rfl,by rw[e1]; exact hr,by rw[e2]; exact d02.zero _,by rw[e3]; exact o00.zero _⟩)
theorem wn64{n:Nat}(h:n<=18446744073709551615):wn n<=2^43:=by
 have:wn n<=2:=n05 (by omega)
 omega
theorem n0h{V:View}{p q d:Int}(p0 : -9223372036854775808<=p)(p1:p<=9223372036854775807)(q0 : -9223372036854775808<=q)(q1:q<=9223372036854775807)(d0 : -9223372036854775808<=d)(d1:d<=9223372036854775807)(hd:d≠0) :
 a00 prog b0x #[.int .i64 p,.int .i64 q,.int .i64 d] V λv V'=>∃r:NumV,v = .tuple #[r.val,.int .i64 0]/\T00 V' r ⟨(p:Rat) / (d:Rat),(q:Rat) / (d:Rat)⟩:=by
 refine z0v p q d V _ ⟨λh => ?_,λ_ => ?_⟩
 . exact absurd (by simpa using h) hd
 refine(n09 p0 p1).mono λv V1 l1 ⟨a,hv,ha⟩=>⟨a,hv,?_⟩
 refine(n09 q0 q1).mono λv V2 l2 ⟨b,hv,hb⟩=>⟨b,hv,?_⟩
 refine(n09 d0 d1).mono λv V3 l3 ⟨c,hv,hc⟩=>⟨c,hv,λhn => ?_,λhn => ?_⟩
 . have hneg:d<0:=by have:=hc.1; rw[hn]at this; simpa using this.symm
   refine(m03 (ha.le (View.le_trans l2 l3))).mono λv V4 l4 ⟨a',hv,ha'⟩=>⟨a',hv,?_⟩
   refine(m03 (hb.le (View.le_trans l3 l4))).mono λv V5 l5 ⟨b',hv,hb'⟩=>⟨b',hv,?_⟩
   refine(I03 (ha'.le l5) hb' (hc.2.le (View.le_trans l4 l5)) ?_ (wn64 (by omega)) (wn64 (by omega)) (wn64 (by omega))).mono λv V6 l6 ⟨r,hv,hr⟩=>⟨r,hv,r,rfl,hr⟩
   have e:((d.natAbs:Nat):Rat) = -(d:Rat):=by
    have:(d.natAbs:Int) = -d:=by omega
    rw[<-Rat.intCast_natCast,this]; push_cast; rfl
   refine⟨by omega,?_,?_⟩<;>(simp only[e]; push_cast; rw[Rat.div_def,Rat.div_def]; grind)
 . have hpos:¬d<0:=by have:=hc.1; rw[hn]at this; simpa using this.symm
   refine(I03 (ha.le (View.le_trans l2 l3)) (hb.le l3) hc.2 ?_ (wn64 (by omega)) (wn64 (by omega)) (wn64 (by omega))).mono λv V6 l6 ⟨r,hv,hr⟩=>⟨r,hv,r,rfl,hr⟩
   have e:((d.natAbs:Nat):Rat)=(d:Rat):=by
    have:(d.natAbs:Int)=d:=by omega
    rw[<-Rat.intCast_natCast,this]
   refine⟨by omega,?_,?_⟩<;>simp only[e]
theorem Cq.wA{z:Cq}(h:z.sz<=2^40):wn z.A.natAbs<=2^35:=j09 (by have:=z.szA; omega)
theorem Cq.wB{z:Cq}(h:z.sz<=2^40):wn z.B.natAbs<=2^35:=j09 (by have:=z.szB; omega)
theorem Cq.wD{z:Cq}(h:z.sz<=2^40):wn z.D<=2^35:=j09 (by have:=z.szD; omega)
theorem Y03{a b:Int}{k:Nat}(ha:wn a.natAbs<=k)(hb:wn b.natAbs<=k):wn (a*b).natAbs<=2*k:=by
 rw[Int.natAbs_mul]; have:=z08 a.natAbs b.natAbs; omega
theorem G0b{a b:Int}{k:Nat}(ha:wn a.natAbs<=k)(hb:wn b.natAbs<=k):wn (a+b).natAbs<=k+1:=by
 have:=H09 (Int.natAbs_add_le a b); have:=z0x a.natAbs b.natAbs; omega
theorem s0y{a:Int}{k:Nat}(ha:wn a.natAbs<=k):wn (-a).natAbs<=k:=by rw[Int.natAbs_neg]; exact ha
theorem g06{V:View}{x y:NumV}{z w:Cq}(hx:T00 V x z)(hy:T00 V y w)(hz:z.sz<=2^40)(hw:w.sz<=2^40) :
 a00 prog Z0w #[x.val,y.val] V λv V'=>∃r:NumV,v=r.val/\T00 V' r (z+w):=by
 have zA:=Cq.wA hz; have zB:=Cq.wB hz; have zD:=Cq.wD hz
 have wA:=Cq.wA hw; have wB:=Cq.wB hw; have wD:=Cq.wD hw
 have zD':wn (z.D:Int).natAbs<=2^35:=zD
 have wD':wn (w.D:Int).natAbs<=2^35:=wD
 have s1:=Y03 zA wD'; have s2:=Y03 wA zD'; have s3:=Y03 zB wD'; have s4:=Y03 wB zD'
 have s5:=G0b s1 s2; have s6:=G0b s3 s4
 have s7:=z08 z.D w.D
 refine A0v x y V _ ((B01 hx).mono λv V1 l1 ⟨r1,hv,h1⟩=>⟨r1,hv,?_⟩)
 replace hx:=hx.le l1; replace hy:=hy.le l1
 refine(B01 hy).mono λv V2 l2 ⟨r2,hv,h2⟩=>⟨r2,hv,?_⟩
 replace hx:=hx.le l2; replace hy:=hy.le l2; replace h1:=h1.le l2
 refine(Y01 hx.re h2 (by omega) (by omega)).mono λv V3 l3 ⟨r3,hv,h3⟩=>⟨r3,hv,?_⟩
 replace hx:=hx.le l3; replace hy:=hy.le l3; replace h1:=h1.le l3; replace h2:=h2.le l3
 refine(Y01 hy.re h1 (by omega) (by omega)).mono λv V4 l4 ⟨r4,hv,h4⟩=>⟨r4,hv,?_⟩
 replace hx:=hx.le l4; replace hy:=hy.le l4; replace h1:=h1.le l4; replace h2:=h2.le l4; replace h3:=h3.le l4
 refine(w05 h3 h4 (by omega) (by omega)).mono λv V5 l5 ⟨r5,hv,h5⟩=>⟨r5,hv,?_⟩
 replace hx:=hx.le l5; replace hy:=hy.le l5; replace h1:=h1.le l5; replace h2:=h2.le l5
 refine(Y01 hx.im h2 (by omega) (by omega)).mono λv V6 l6 ⟨r6,hv,h6⟩=>⟨r6,hv,?_⟩
 replace hy:=hy.le l6; replace h1:=h1.le l6; replace h2:=h2.le l6; replace h5:=h5.le l6
 refine(Y01 hy.im h1 (by omega) (by omega)).mono λv V7 l7 ⟨r7,hv,h7⟩=>⟨r7,hv,?_⟩
 replace h1:=h1.le l7; replace h2:=h2.le l7; replace h5:=h5.le l7; replace h6:=h6.le l7
 refine(w05 h6 h7 (by omega) (by omega)).mono λv V8 l8 ⟨r8,hv,h8⟩=>⟨r8,hv,?_⟩
 replace h1:=h1.le l8; replace h2:=h2.le l8; replace h5:=h5.le l8
 refine(D08 h1 h2 (by omega) (by omega)).mono λv V9 l9 ⟨r9,hv,h9⟩=>⟨r9,hv,?_⟩
 exact(I03 (h5.le l9) (h8.le l9) h9 (z.canon.rep.add w.canon.rep) (by omega) (by omega) (by omega)).mono λv V10 _ ⟨r,hv,hr⟩=>⟨r,hv,r,rfl,hr⟩
theorem o0h{V:View}{x:NumV}{z:Cq}(hx:T00 V x z):a00 prog c0x #[x.val] V λv V'=>∃r:NumV,v=r.val/\T00 V' r (-z):=by
 obtain⟨e1,e2,e3⟩:=z.neg_eqs
 refine B0v x V _ ((m03 hx.re).mono λv V1 l1 ⟨r1,hv,h1⟩=>⟨r1,hv,?_⟩)
 exact(m03 (hx.im.le l1)).mono λv V2 l2 ⟨r2,hv,h2⟩=>⟨r2,hv,_,rfl,by rw[e1]; exact h1.le l2,by rw[e2]; exact h2,by rw[e3]; exact hx.under.le (View.le_trans l1 l2)⟩
theorem O0n{V:View}{x:NumV}{z:Cq}(hx:T00 V x z):a00 prog l0v #[x.val] V λv V'=>∃r:NumV,v=r.val/\T00 V' r z.conj:=by
 obtain⟨e1,e2,e3⟩:=z.conj_eqs
 exact e0s x V _ ((m03 hx.im).mono λv V1 l1 ⟨r1,hv,h1⟩=>⟨r1,hv,_,rfl,by rw[e1]; exact hx.re.le l1,by rw[e2]; exact h1,by rw[e3]; exact hx.under.le l1⟩)
theorem G08{V:View}{x y:NumV}{z w:Cq}(hx:T00 V x z)(hy:T00 V y w)(hz:z.sz<=2^40)(hw:w.sz<=2^40) :
 a00 prog y0i #[x.val,y.val] V λv V'=>∃r:NumV,v=r.val/\T00 V' r (z-w):=by
 refine C0v x y V _ ((o0h hy).mono λv V1 l1 ⟨r1,hv,h1⟩=>⟨r1,hv,?_⟩)
 rw[M0j]
 exact(g06 (hx.le l1) h1 hz (by rw[e0d]; exact hw)).mono λv V2 _ ⟨r,hv,hr⟩=>⟨r,hv,r,rfl,hr⟩
theorem A04{V:View}{x y:NumV}{z w:Cq}(hx:T00 V x z)(hy:T00 V y w)(hz:z.sz<=2^40)(hw:w.sz<=2^40) :
 a00 prog x0i #[x.val,y.val] V λv V'=>∃r:NumV,v=r.val/\T00 V' r (z*w):=by
 have zA:=Cq.wA hz; have zB:=Cq.wB hz; have zD:=Cq.wD hz
 have wA:=Cq.wA hw; have wB:=Cq.wB hw; have wD:=Cq.wD hw
 have s1:=Y03 zA wA; have s2:=Y03 zB wB; have s2':=s0y s2; have s3:=Y03 zA wB; have s4:=Y03 zB wA
 have s5:=G0b s1 s2'; have s6:=G0b s3 s4
 have s7:=z08 z.D w.D
 refine D0v x y V _ ((S04 hx.re hy.re (by omega) (by omega)).mono λv V1 l1 ⟨r1,hv,h1⟩=>⟨r1,hv,?_⟩)
 replace hx:=hx.le l1; replace hy:=hy.le l1
 refine(S04 hx.im hy.im (by omega) (by omega)).mono λv V2 l2 ⟨r2,hv,h2⟩=>⟨r2,hv,?_⟩
 replace hx:=hx.le l2; replace hy:=hy.le l2; replace h1:=h1.le l2
 refine(m03 h2).mono λv V3 l3 ⟨r3,hv,h3⟩=>⟨r3,hv,?_⟩
 replace hx:=hx.le l3; replace hy:=hy.le l3; replace h1:=h1.le l3
 refine(w05 h1 h3 (by omega) (by omega)).mono λv V4 l4 ⟨r4,hv,h4⟩=>⟨r4,hv,?_⟩
 replace hx:=hx.le l4; replace hy:=hy.le l4
 refine(S04 hx.re hy.im (by omega) (by omega)).mono λv V5 l5 ⟨r5,hv,h5⟩=>⟨r5,hv,?_⟩
 replace hx:=hx.le l5; replace hy:=hy.le l5; replace h4:=h4.le l5
 refine(S04 hx.im hy.re (by omega) (by omega)).mono λv V6 l6 ⟨r6,hv,h6⟩=>⟨r6,hv,?_⟩
 replace hx:=hx.le l6; replace hy:=hy.le l6; replace h4:=h4.le l6; replace h5:=h5.le l6
 refine(w05 h5 h6 (by omega) (by omega)).mono λv V7 l7 ⟨r7,hv,h7⟩=>⟨r7,hv,?_⟩
 replace hx:=hx.le l7; replace hy:=hy.le l7; replace h4:=h4.le l7
 refine(B01 hx).mono λv V8 l8 ⟨r8,hv,h8⟩=>⟨r8,hv,?_⟩
 replace hy:=hy.le l8; replace h4:=h4.le l8; replace h7:=h7.le l8
 refine(B01 hy).mono λv V9 l9 ⟨r9,hv,h9⟩=>⟨r9,hv,?_⟩
 replace h4:=h4.le l9; replace h7:=h7.le l9; replace h8:=h8.le l9
 refine(D08 h8 h9 (by omega) (by omega)).mono λv V10 l10 ⟨r10,hv,h10⟩=>⟨r10,hv,?_⟩
 refine(I03 (h4.le l10) (h7.le l10) h10 ?_ (by omega) (by omega) (by omega)).mono λv V11 _ ⟨r,hv,hr⟩=>⟨r,hv,r,rfl,hr⟩
 rw[<-Int.sub_eq_add_neg]; exact z.canon.rep.mul w.canon.rep
theorem I0f{V:View}{x y:NumV}{z w:Cq}(hx:T00 V x z)(hy:T00 V y w)(hz:z.sz<=2^40)(hw:w.sz<=2^40) :
 a00 prog P0u #[x.val,y.val] V λv _=>v = .bool (decide (z=w)):=by
 have zA:=Cq.wA hz; have zB:=Cq.wB hz; have zD:=Cq.wD hz
 have wA:=Cq.wA hw; have wB:=Cq.wB hw; have wD:=Cq.wD hw
 refine c0s x y V _ ((g08 hx.re hy.re (by omega) (by omega)).mono λv V1 l1 hv=>⟨_,hv,λh1 => ?_,λh1=>⟨(λh=>by cases h),λ_ => ?_⟩⟩)
 . have h1:z.A=w.A:=w0f.1 (by simpa using h1)
   refine(g08 (hx.im.le l1) (hy.im.le l1) (by omega) (by omega)).mono λv V2 l2 hv=>⟨_,hv,λh2 => ?_,λh2 => ?_⟩
   . have h2:z.B=w.B:=w0f.1 (by simpa using h2)
     refine(C08 (hx.under.le (View.le_trans l1 l2)) (hy.under.le (View.le_trans l1 l2)) ?_).mono λv V3 l3 hv=>⟨_,hv,?_⟩
     . split
       . rw[w06]; omega
       . omega
     . have hD1:=z.D_pos
       have hD2:=w.D_pos
       congr 1
       by_cases e:z.D=w.D
       . have:z=w:=K10 h1 h2 e
         subst this; simp
       . have:z≠w:=by rintro rfl; exact e rfl
         simp only[this,decide_false]
         have h3:(if z.D=1 then 0 else z.D)≠(if w.D=1 then 0 else w.D):=by split<;>split<;>omega
         rw[if_neg h3]
         by_cases h:(if z.D=1 then 0 else z.D)<(if w.D=1 then 0 else w.D)
         . rw[if_pos h]; rfl
         . rw[if_neg h]; rfl
   . have h2:¬z.B=w.B:=λe=>by rw[w0f.2 e]at h2; simp at h2
     have:z≠w:=by rintro rfl; exact h2 rfl
     simp[this]
 . have h1:¬z.A=w.A:=λe=>by rw[w0f.2 e]at h1; simp at h1
   have:z≠w:=by rintro rfl; exact h1 rfl
   simp[this]
theorem J02{V:View}{x:NumV}{z:Cq}(hx:T00 V x z):a00 prog N0u #[x.val] V λv _=>v = .bool (decide (z.im=0)):=by
 refine d0s x V _ ?_
 have h1:=hx.im.2.len_zero
 have h2:=Cq.B_zero (z:=z)
 congr 1
 by_cases e:z.im=0
 . have:x.im.mag.len=0:=h1.2 (by rw[h2.2 e]; rfl)
   simp[e,this]
 . have:x.im.mag.len≠0:=λh=>e (h2.1 (by have:=h1.1 h; omega))
   simp only[e,decide_false,beq_eq_false_iff_ne,ne_eq]; omega
theorem H08{V:View}{x y:NumV}{z w:Cq}(hx:T00 V x z)(hy:T00 V y w)(hz:z.sz<=2^40)(hw:w.sz<=2^40) :
 a00 prog T0w #[x.val,y.val] V λv _=>v = .int .i64 (z.cmp w):=by
 have zA:=Cq.wA hz; have zB:=Cq.wB hz; have zD:=Cq.wD hz
 have wA:=Cq.wA hw; have wB:=Cq.wB hw; have wD:=Cq.wD hw
 have zD':wn (z.D:Int).natAbs<=2^35:=zD
 have wD':wn (w.D:Int).natAbs<=2^35:=wD
 have s1:=Y03 zA wD'; have s2:=Y03 wA zD'; have s3:=Y03 zB wD'; have s4:=Y03 wB zD'
 have c1:cmpZ (z.A*w.D) (w.A*z.D)=cmpR z.re w.re:=by rw[E0x z.D_pos w.D_pos,<-z.canon.rep.re,<-w.canon.rep.re]
 have c2:cmpZ (z.B*w.D) (w.B*z.D)=cmpR z.im w.im:=by rw[E0x z.D_pos w.D_pos,<-z.canon.rep.im,<-w.canon.rep.im]
 refine E0v x y V _ ((B01 hy).mono λv V1 l1 ⟨r1,hv,h1⟩=>⟨r1,hv,?_⟩)
 replace hx:=hx.le l1; replace hy:=hy.le l1
 refine(Y01 hx.re h1 (by omega) (by omega)).mono λv V2 l2 ⟨r2,hv,h2⟩=>⟨r2,hv,?_⟩
 replace hx:=hx.le l2; replace hy:=hy.le l2
 refine(B01 hx).mono λv V3 l3 ⟨r3,hv,h3⟩=>⟨r3,hv,?_⟩
 replace hx:=hx.le l3; replace hy:=hy.le l3; replace h2:=h2.le l3
 refine(Y01 hy.re h3 (by omega) (by omega)).mono λv V4 l4 ⟨r4,hv,h4⟩=>⟨r4,hv,?_⟩
 replace hx:=hx.le l4; replace hy:=hy.le l4; replace h2:=h2.le l4
 refine(g08 h2 h4 (by omega) (by omega)).mono λv V5 l5 hv=>⟨_,hv,λhn => ?_,λhn => ?_⟩
 . rw[c1]at hn ⊢
   have hn:cmpR z.re w.re≠0:=by simpa using hn
   unfold Cq.cmp; rw[if_pos hn]
 . rw[c1]at hn
   have hn:¬cmpR z.re w.re≠0:=by simpa using hn
   replace hx:=hx.le l5; replace hy:=hy.le l5
   refine(B01 hy).mono λv V6 l6 ⟨r6,hv,h6⟩=>⟨r6,hv,?_⟩
   replace hx:=hx.le l6; replace hy:=hy.le l6
   refine(Y01 hx.im h6 (by omega) (by omega)).mono λv V7 l7 ⟨r7,hv,h7⟩=>⟨r7,hv,?_⟩
   replace hx:=hx.le l7; replace hy:=hy.le l7
   refine(B01 hx).mono λv V8 l8 ⟨r8,hv,h8⟩=>⟨r8,hv,?_⟩
   replace hx:=hx.le l8; replace hy:=hy.le l8; replace h7:=h7.le l8
   refine(Y01 hy.im h8 (by omega) (by omega)).mono λv V9 l9 ⟨r9,hv,h9⟩=>⟨r9,hv,?_⟩
   replace h7:=h7.le l9
   refine(g08 h7 h9 (by omega) (by omega)).mono λv V10 l10 hv=>⟨_,hv,?_⟩
   unfold Cq.cmp; rw[if_neg hn,c2]
def ratQ(r:RatV):Cq:=if r.den=0 then⟨(r.re:Rat),(r.im:Rat)⟩else⟨(r.re:Rat) / (r.den:Rat),(r.im:Rat) / (r.den:Rat)⟩
def ratI(r:RatV):Prop:=(-9223372036854775808<=r.re/\r.re<=9223372036854775807)/\(-9223372036854775808<=r.im/\r.im<=9223372036854775807)/\(-9223372036854775808<=r.den/\r.den<=9223372036854775807)
theorem p0h{V:View}{r:RatV}(h:ratI r):a00 prog U0w #[r.val] V λv V'=>∃x:NumV,v=x.val/\T00 V' x (ratQ r):=by
 obtain⟨⟨a1,a2⟩,⟨b1,b2⟩,⟨c1,c2⟩⟩:=h
 refine F0v r V _ ⟨λh0 => ?_,λh0 => ?_⟩
 . have h0:r.den=0:=by simpa using h0
   refine(n0h a1 a2 b1 b2 (by omega) (by omega) (by omega)).mono λv V1 _ ⟨x,hv,hx⟩=>⟨x,0,hv,x,rfl,?_⟩
   have e:ratQ r=⟨(r.re:Rat) / ((1:Int):Rat),(r.im:Rat) / ((1:Int):Rat)⟩:=by
    unfold ratQ; rw[if_pos h0]; simp only[Rat.div_def,Cq.mk.injEq]; constructor<;>grind
   rw[e]; exact hx
 . have h0:r.den≠0:=by simpa using h0
   refine(n0h a1 a2 b1 b2 c1 c2 h0).mono λv V1 _ ⟨x,hv,hx⟩=>⟨x,0,hv,x,rfl,?_⟩
   unfold ratQ; rw[if_neg h0]; exact hx
theorem t0y{V:View}{b:Nat}{l:List Value}(h:V b=some l.toArray):V.has (some (Addr.mk b 0 none)) l:=by
 intro j v hj
 rw[s09 h]; simpa using hj
end Go.Proofs.YtfdaofhjkdabbaaGreat
namespace Go.Proofs.YtfdaofhjkdabbaaGreat
open Go Go.Vc Go.Proofs Go.ChangeShapes Go.RowKit
structure c12 (P:Program) (t:TypeId):Prop where
 fields:∃f0 f1 f2:Field,P.underlying t=some (.struct #[f0,f1,f2])/\(f0.offset=0/\f1.offset=1/\f2.offset=2) /\
  (P.underlying f0.type=some (.int .i64)/\P.underlying f1.type=some (.int .i64)/\P.underlying f2.type=some (.int .i64))/\(P.cellsOf f0.type=1/\P.cellsOf f1.type=1/\P.cellsOf f2.type=1)
 cells:P.cellsOf t=3
section
variable {H:Type} {enc:TypeId×Value->H} {P:Program} {w:World} {base:Nat} {spare:Nat->Bool} {held:Bool}
theorem i10{t:TypeId}{fuel:Nat}{cs:List Value}{x:DataW H×List MemPlace}(ht:c12 P t)(h:DataW.trod enc P w base spare held fuel t cs=some x):∃r:RatV,ratI r/\cs=r.val.cells.toList:=by
 obtain⟨f0,f1,f2,hR,⟨o0,o1,o2⟩,⟨i0,i1,i2⟩,c0,c1,c2⟩:=ht.fields
 obtain⟨xs,n,_,_,hl,hxs,hf⟩:=DataW.trod_struct hR h
 rw[ht.cells]at hl
 match cs,hl with
 | [a,b,c],_ =>
   have g0:=hf 0 f0 rfl
   have g1:=hf 1 f1 rfl
   have g2:=hf 2 f2 rfl
   rw[o0,c0]at g0
   rw[o1,c1]at g1
   rw[o2,c2]at g2
   have hs:xs.length=3:=hxs
   match xs,hs with
   | [y0, y1, y2], _ =>
     obtain⟨n0,e0,_,w0⟩:=DataW.trod_int i0 g0
     obtain⟨n1,e1,_,w1⟩:=DataW.trod_int i1 g1
     obtain⟨n2,e2,_,w2⟩:=DataW.trod_int i2 g2
     simp at e0 e1 e2
     subst e0; subst e1; subst e2
     exact⟨⟨n0,n1,n2⟩,⟨bounds_i64 w0,bounds_i64 w1,bounds_i64 w2⟩,rfl⟩
end
theorem j10{H:Type}{enc:TypeId×Value->H}{P:Program}{w:World}{base:Nat}{spare:Nat->Bool}{held:Bool}{e:TypeId}{v:Value}{d:DataW H}{ps:List MemPlace}(he:c12 P e)
 (h:DataW.Trod enc P w base spare held e v d ps):∃r:RatV,ratI r/\v=r.val:=by
 obtain⟨fuel,h⟩:=h
 obtain⟨r,hr,e1⟩:=i10 he h
 refine⟨r,hr,?_⟩
 cases v with
 | agg cs =>
   have e2:cs.toList=[.int .i64 r.re,.int .i64 r.im,.int .i64 r.den]:=e1
   have:cs=#[.int .i64 r.re,.int .i64 r.im,.int .i64 r.den]:=by rw[<-Array.toList_inj]; exact e2
   rw[this]; rfl
 | _=>exact absurd (congrArg List.length e1) (by simp[Value.cells,RatV.val])
theorem a00.fits{P:Program}{f:FuncId}{args:Array Value}{r:Value}{V:View}(h:a00 P f args V λv _=>v=r){w:World}(hw:V.In w) :
 Calls P f args w λe w'=>e = .returned r/\Below w.heap.size w w' :=
 (h w hw).mono λ_ _ ⟨_,_,he,_,_,_,hb,hr⟩=>⟨by rw[he,hr],hb⟩
theorem J0f{H:Type}{enc:TypeId×Value->H}{P:Program}(hl:laidOutB P=true){W W':World}(hb:Below W.heap.size W W') :
 ∀ {ts:List TypeId} {vs:List Value} {ds:List (DataW H)} {ps:List MemPlace},(∀t∈ts,P.readableRec t=true/\t<P.types.size)->(∀p∈ps,p.block<W.heap.size) ->
 DataW.TrodAll enc P W 0 (λ_=>true) true ts vs ds ps->DataW.TrodAll enc P W' 0 (λb=>decide (b<W.heap.size)) true ts vs ds ps
 | [],[],[],_,_,_,h=>h
 | t::ts,v::vs,d::ds,ps,ht,hlt,⟨p,q,h1,h2,e⟩=>by
   subst e
   exact⟨p,q,Below.trod hl (ht t (by simp)).1 (ht t (by simp)).2 h1 hb (λx hx=>hlt x (by simp[hx])),
    J0f hl hb (λt' ht'=>ht t' (by simp[ht'])) (λx hx=>hlt x (by simp[hx])) h2,rfl⟩
 | [],[],_::_,_,_,_,h=>h.elim
 | [],_::_,_,_,_,_,h=>h.elim
 | _::_,[],_,_,_,_,h=>h.elim
 | _::_,_::_,[],_,_,_,h=>h.elim
theorem q0q{H:Type}{enc:TypeId×Value->H}{P:Program}{f:Func}{s:ChangeSpec}{apart fresh handsOn:Bool}{W W':World}{args:Array Value}{v:Value}{ds:List (DataW H)}{before:List MemPlace}
 (hl:laidOutB P=true) (ht:∀t∈f.params.toList,P.readableRec t=true/\t<P.types.size)
 (hW:DataW.Whole enc P f.params.toList s.vars apart W args.toList ds [] before) (hA:DataW.TrodAll enc P W 0 (λ_=>true) true f.params.toList args.toList ds before)
 (hres:∀(b:Nat) (sp:Nat->Bool) (hd:Bool),DataW.TrodAll enc P W' b sp hd f.resultTypes.toList (v.resultList f.resultTypes.size) (s.fn H (ds++[])).results [])
 (hargs:(s.fn H (ds++[])).args=ds) (hvars:∀sp:Nat->Bool,DataW.TrodVars enc P W' sp s.vars (s.fn H (ds++[])).vars []) (hb:Below W.heap.size W W'):s.post enc P f apart fresh handsOn false W args v W':=by
 refine⟨ds,[],before,[],before,[],hW,hres _ _ _,?_,hvars _,World.keptBut_mono (λp hp=>⟨hp,.inr (.inl hp)⟩) (hb.frame (·∈before)),λh=>Bool.noConfusion h⟩
 rw[hargs]
 exact J0f hl hb ht (λp hp=>hW.lt p hp) hA
inductive FK where
 | int (k:IntKind)
 | bool
def FK.ok:FK->Value->Prop
 | .int k,v=>∃n,v = .int k n/\(Lit.int k n).wf=true
 | .bool,v=>∃b,v = .bool b
def K0f:List FK->List Value->Prop
 | [],[]=>True
 | f::fs,v::vs=>f.ok v/\K0f fs vs
 | _,_=>False
theorem K0f.append:∀ {l l':List FK} {v v':List Value},K0f l v->K0f l' v'->K0f (l++l') (v++v')
 | [],_,[],_,_,h=>h
 | _::_,_,_::_,_,⟨h1,h2⟩,h=>⟨h1,K0f.append h2 h⟩
 | [],_,_::_,_,h,_=>h.elim
 | _::_,_,[],_,h,_=>h.elim
def s0q(P:Program)(F:TypeId->Option (List FK)):List Field->Nat->Option (List FK)
 | [],_=>some []
 | f::fs,off=>match F f.type,s0q P F fs (off+P.cellsOf f.type)with
   | some l,some r=>if f.offset=off/\l.length=P.cellsOf f.type then some (l++r)else none
   | _,_=>none
def P0s(P:Program):Nat->TypeId->Option (List FK)
 | 0,_=>none
 | d+1,t=>match P.underlying t with
   | some (.int k)=>some [.int k]
   | some .bool=>some [.bool]
   | some (.struct fs) => match s0q P (P0s P d) fs.toList 0 with
     | some l=>if l.length=P.cellsOf t then some l else none
     | none=>none
   | some (.array n e) => match P0s P d e with
     | some l=>if l.length=P.cellsOf e/\n*l.length=P.cellsOf t then some (List.replicate n l).flatten else none
     | none=>none
   | _=>none
section
variable {H:Type} {enc:TypeId×Value->H} {P:Program} {w:World} {base:Nat} {spare:Nat->Bool} {held:Bool}
theorem g0j{F:TypeId->Option (List FK)}{n:Nat}(hF:∀t l cs x,F t=some l->DataW.trod enc P w base spare held n t cs=some x->K0f l cs){cs:List Value}{xs:List (DataW H×List MemPlace)}{all:List Field}(hxs:xs.length=all.length)
 (hf:∀(i:Nat) (f:Field),all[i]?=some f->DataW.trod enc P w base spare held n f.type ((cs.drop f.offset).take (P.cellsOf f.type))=xs[i]?) :
 ∀(fs pre:List Field) (off:Nat) (l:List FK),all=pre++fs->s0q P F fs off=some l->cs.length=off+l.length->K0f l (cs.drop off)
 | [],pre,off,l,he,h,hl=>by
   simp only[s0q,Option.some.injEq]at h
   subst h
   rw[List.drop_eq_nil_of_le (by simp at hl; omega)]; trivial
 | f::fs,pre,off,l,he,h,hl=>by
   simp only[s0q]at h
   split at h
   . rename_i l1 r h1 h2
     split at h
     . rename_i hc
       obtain⟨rfl,hlen⟩:=hc
       simp only[Option.some.injEq]at h
       subst h
       have hi:all[pre.length]?=some f:=by rw[he]; simp
       have g:=hf _ f hi
       have hx:pre.length<xs.length:=by rw[hxs,he]; simp
       rw[List.getElem?_eq_getElem hx]at g
       have a1:=hF _ _ _ _ h1 g
       have a2:=g0j hF hxs hf fs (pre++[f]) (f.offset+P.cellsOf f.type) r (by rw[he]; simp) h2 (by rw[List.length_append]at hl; omega)
       have e:cs.drop f.offset=(cs.drop f.offset).take (P.cellsOf f.type)++cs.drop (f.offset+P.cellsOf f.type):=by
        rw[<-List.drop_drop,List.take_append_drop]
       rw[e]; exact a1.append a2
     . simp at h
   . simp at h
theorem D0g:∀(d:Nat) (fuel:Nat) (t:TypeId) (l:List FK) (cs:List Value) (x:DataW H×List MemPlace),P0s P d t=some l->DataW.trod enc P w base spare held fuel t cs=some x->K0f l cs
 | 0,_,_,_,_,_,h,_=>by simp[P0s]at h
 | d+1,fuel,t,l,cs,x,h,hx=>by
   simp only[P0s]at h
   split at h
   . rename_i k hu
     obtain⟨n,rfl,_,hw⟩:=DataW.trod_int hu hx
     simp only[Option.some.injEq]at h
     subst h
     exact⟨⟨n,rfl,hw⟩,trivial⟩
   . rename_i hu
     obtain⟨b,rfl,_⟩:=DataW.trod_bool hu hx
     simp only[Option.some.injEq]at h
     subst h
     exact⟨⟨b,rfl⟩,trivial⟩
   . rename_i fs hu
     obtain⟨xs,n,rfl,_,hl,hxs,hf⟩:=DataW.trod_struct hu hx
     split at h
     . rename_i l1 h1
       split at h
       . rename_i hc
         simp only[Option.some.injEq]at h
         subst h
         have:=g0j (F:=P0s P d) (λt l cs x h1 h2=>D0g d n t l cs x h1 h2) (all:=fs.toList) (by simpa using hxs) (λi f hi=>hf i f (by simpa using hi)) fs.toList [] 0 l1 rfl h1 (by omega)
         simpa using this
       . simp at h
     . simp at h
   . rename_i n e hu
     obtain⟨xs,m,rfl,_,hl,hxs,hf⟩:=DataW.trod_array hu hx
     split at h
     . rename_i l1 h1
       split at h
       . rename_i hc
         obtain⟨c1,c2⟩:=hc
         simp only[Option.some.injEq]at h
         subst h
         have key:∀j,j<=n->K0f (List.replicate j l1).flatten (cs.take (j*P.cellsOf e)):=by
          intro j
          induction j with
          | zero=>intro _; simp; trivial
          | succ j ih =>
            intro hj
            have a1:=ih (by omega)
            have g:=hf j (by omega)
            rw[List.getElem?_eq_getElem (by omega:j<xs.length)]at g
            have a2:=D0g d m e l1 _ _ h1 g
            have e1:cs.take ((j+1)*P.cellsOf e)=cs.take (j*P.cellsOf e)++(cs.drop (j*P.cellsOf e)).take (P.cellsOf e):=by
             rw[Nat.add_mul,Nat.one_mul,List.take_add]
            have e2:(List.replicate (j+1) l1).flatten=(List.replicate j l1).flatten++l1:=by
             rw[List.replicate_succ']; simp
            rw[e1,e2]; exact a1.append a2
         have:=key n (Nat.le_refl _)
         rw[List.take_of_length_le (by rw[hl,<-c2,c1]; exact Nat.le_refl _)]at this
         exact this
       . simp at h
     . simp at h
   . simp at h
end
def B07(w:World):View:=λb=>match w.heap[b]? with|some (.cells cs _ _)=>some cs|_=>none
theorem t0q(w:World):(B07 w).In w:=by
 intro i cs hi
 unfold B07 at hi
 split at hi
 . rename_i cs' T fr hw
   simp at hi; subst hi
   exact⟨T,fr,hw⟩
 . simp at hi
theorem F0k{w:World}{p:Addr}{v:Value}(h:w.cell? p=some v):(B07 w).load (some p)=some v:=by
 unfold World.cell? at h
 unfold View.load B07
 split at h
 . rename_i c T fr hw
   simp only[hw]
   split at h
   . simp at h
   . rename_i hs
     simp only[hs]
     simpa using h
 . simp at h
section
variable {H:Type} {enc:TypeId×Value->H} {P:Program} {w:World} {base:Nat} {spare:Nat->Bool} {held:Bool}
theorem u0q{α:Type}{sz:Nat}{t e:TypeId}(ht:P.underlying t=some (.slice e))(hc:P.cellsOf e=sz)(ok:α->Prop)(E:View->List Value->α->Prop)
 (he:∀ {fuel:Nat} {cs:List Value} {x:DataW H×List MemPlace},DataW.trod enc P w base spare held fuel e cs=some x->∃z,ok z/\E (B07 w) cs z)
 {fuel:Nat} {cs:List Value} {x:DataW H×List MemPlace} (h:DataW.trod enc P w base spare held fuel t cs=some x) :
 ∃(s:Sl) (zs:List α),cs=[s.v]/\k00 sz E (B07 w) s zs/\zs.length<=maxLen/\∀z∈zs,ok z:=by
 rcases Go.Deep.open_slice ht h with⟨h1,_⟩|⟨a,l0,c0,m,n,D,Pl,h1,_,hl,hm,hmm,_,hx⟩
 . subst h1
   exact⟨Sl.mk none 0 0,[],rfl,k00.nil,Nat.zero_le _,by intro r hr; simp at hr⟩
 . subst h1
   have hlm:l0<=m:=by rw[hmm]; split<;>omega
   have key:∀k,k<=l0->∃(rs:List α) (o:List Value),rs.length=k/\(∀r∈rs,ok r)/\t01 sz E (B07 w) o rs/\(B07 w).has (some a) o:=by
    intro k
    induction k with
    | zero=>intro _; exact⟨[],[],rfl,by intro r hr; simp at hr,rfl,by intro j v hj; simp at hj⟩
    | succ k ih =>
      intro hk
      obtain⟨rs,o,hrl,hri,hcs,ho⟩:=ih (by omega)
      obtain⟨cs',g1,g2⟩:=hx k (by omega)
      obtain⟨r,hr,er⟩:=he g2
      rw[hc]at g1
      obtain⟨_,hcl,hcell⟩:=World.cells?_some g1
      have hol:=hcs.length
      refine⟨rs++[r],o++cs',by simp[hrl],?_,hcs.append (t01.one hcl er),?_⟩
      . intro x hx
        rcases List.mem_append.1 hx with h|h
        . exact hri x h
        . simp at h; subst h; exact hr
      . intro j v hj
        by_cases hjo:j<o.length
        . rw[List.getElem?_append_left hjo]at hj
          exact ho j v hj
        . rw[List.getElem?_append_right (by omega)]at hj
          have hj3:j-o.length<sz:=by
           rcases Nat.lt_or_ge (j-o.length) cs'.length with h|h
           . omega
           . rw[List.getElem?_eq_none h]at hj; simp at hj
          have hcj:=hcell (j-o.length) hj3
          rw[hj,F0c]at hcj
          have e:k*sz+(j-o.length)=j:=by rw[hol,hrl]; rw[hol,hrl]at hjo; omega
          rw[e]at hcj
          exact F0k hcj
   obtain⟨rs,o,hrl,hri,hcs,ho⟩:=key l0 (Nat.le_refl _)
   exact⟨Sl.mk (some a) l0 c0,rs,rfl,⟨hrl.symm,hl,λ_=>rfl,o,ho,hcs⟩,by omega,hri⟩
theorem w0q{v x:Value}(h:v.cells.toList=[x])(hv:∃a l c,v = .slice a l c):v=x:=by
 obtain⟨a,l,c,rfl⟩:=hv
 simpa [Value.cells]using h
end
end Go.Proofs.YtfdaofhjkdabbaaGreat
namespace Go.Proofs.YtfdaofhjkdabbaaGreat
open Go Go.Vc Go.Proofs
open Go.Proofs.Tryz (prog)
open Go.IntKind (i64 u64 u32 u8)
theorem L0f(x:Nat):g07 prog U0e #[.float .f64 x] (.int .u64 (x:Int)):=λw=>by kernel_rfl
theorem H0b(x:Nat):g07 prog Q05 #[.int .u64 (x:Int)] (.float .f64 x):=λw=>by kernel_rfl
theorem u09{V:View}{x:Nat}(h:x<2^64):a00 prog N0o #[.float .f64 x] V λv _=>v = .bool (decide (¬okW x)):=by
 refine M0m x V _ ?_
 by_cases c:okW x
 . rw[y0f c c,decide_eq_false (λz=>z c)]
   have:compare (key x) (key x) = .eq:=by
    show compareOfLessAndEq _ _=_
    unfold compareOfLessAndEq; rw[if_neg (by omega),if_pos rfl]
   rw[this]; rfl
 . have:infR<x%2^63:=by unfold okW at c; omega
   rw[z0e this,decide_eq_true c]; rfl
theorem E0g:okW 9218868437227405311/\key 9218868437227405311=(infR:Int)-1:=by decide
theorem u0y{x:Nat}(h:okW x) : -(infR:Int)<=key x/\key x<=(infR:Int):=by
 obtain⟨h1,h2⟩:=h
 unfold key infR at *; split<;>omega
theorem a0i{V:View}{x:Nat}(h:x<2^64):a00 prog q0c #[.float .f64 x,.int .i64 1] V λv _=>v = .bool (decide (okW x/\key x=(infR:Int))):=by
 refine s0b x 1 V _ ⟨λh=>absurd h (by simp),λ_=>⟨λh=>absurd h (by simp),λ_ => ?_⟩⟩
 by_cases c:okW x
 . have:=u0y c
   rw[i0h c E0g.1,E0g.2]
   congr 2; apply propext; constructor
   . intro z; exact⟨c,by omega⟩
   . intro z; omega
 . have:infR<x%2^63:=by unfold okW at c; omega
   rw[z0e this,decide_eq_false (λz=>c z.1)]; rfl
theorem y0d{V:View}{x:Nat}(h:x<2^64):a00 prog q0c #[.float .f64 x,.int .i64 (-1)] V λv _=>v = .bool (decide (okW x/\key x = -(infR:Int))):=by
 refine s0b x (-1) V _ ⟨λh=>absurd h (by simp),λ_=>⟨λ_ => ?_,λh=>absurd h (by simp)⟩⟩
 by_cases c:okW x
 . have:=u0y c
   obtain⟨n1,n2⟩:=U0p c
   rw[i0h n1 E0g.1,E0g.2,n2]
   congr 2; apply propext; constructor
   . intro z; exact⟨c,by omega⟩
   . intro z; omega
 . have h2:infR<x%2^63:=by unfold okW at c; omega
   have h3:infR<(Op.negFloat .f64 x)%2^63:=by rw[l09 h]; split<;>omega
   rw[z0e h3,decide_eq_false (λz=>c z.1)]; rfl
theorem D0l{V:View}:a00 prog K0a #[.int .i64 1] V λv _=>v = .float .f64 infR :=
 I0i 1 V _ ⟨λ_=>⟨infR,H0b infR,rfl⟩,λh=>absurd h (by simp)⟩
theorem O0t{V:View}:a00 prog K0a #[.int .i64 (-1)] V λv _=>v = .float .f64 18442240474082181120 :=
 I0i (-1) V _ ⟨λh=>absurd h (by simp),λ_=>⟨18442240474082181120,H0b 18442240474082181120,rfl⟩⟩
theorem w0y{x:Nat}(hx:x<18446744073709551616):(BitVec.ofInt 64 (x:Int)).toNat=x:=by
 rw[BitVec.toNat_ofInt]; omega
theorem F0g{x:Nat}(hx:x<2^64):(BitVec.ofInt u64.bits (x:Int)).toNat=x:=w0y (by omega)
theorem C07{y:Nat}(hy:y<2^64):u64.wrap (y:Int)=(y:Int):=u64w (by omega) (by omega)
theorem x0y{x m:Nat}(hx:x<2^64)(hm:m<2^64):u64.wrap (BitVec.toNat ((BitVec.ofInt u64.bits (x:Int)) &&& ~~~(BitVec.ofInt u64.bits (m:Int))))=((x &&& (2^64-1-m):Nat):Int):=by
 have h2:x &&& (2^64-1-m)<=x:=Nat.and_le_left
 have e3:(~~~(BitVec.ofInt u64.bits (m:Int))).toNat=2^64-1-m:=by
  rw[BitVec.toNat_not,F0g hm]; rfl
 rw[BitVec.toNat_and,F0g hx,e3]
 exact C07 (by omega)
theorem E0l{x m:Nat}(hx:x<2^64)(hm:m<2^64):u64.wrap (BitVec.toNat ((BitVec.ofInt u64.bits (x:Int)) ||| (BitVec.ofInt u64.bits (m:Int))))=((x ||| m:Nat):Int):=by
 rw[BitVec.toNat_or,F0g hx,F0g hm]
 exact C07 (Nat.or_lt_two_pow hx hm)
theorem P0t{V:View}{x:Nat}(h:x<2^64):a00 prog d0v #[.float .f64 x] V λv _=>v = .float .f64 (x%2^63):=by
 refine f0s x V _ ⟨x,L0f x,x%2^63,?_,rfl⟩
 have e:=x0y (x:=x) (m:=2^63) h (by omega)
 have e2:x &&& (2^64-1-2^63)=x%2^63:=Nat.and_two_pow_sub_one_eq_mod x 63
 rw[e2]at e
 have e3:(((2^63:Nat):Int))=9223372036854775808:=by decide
 rw[e3]at e
 rw[e]; exact H0b _
theorem x0q{V:View}{x:Nat}(h:okW x):a00 prog q0c #[.float .f64 x,.int .i64 0] V λv _=>v = .bool (decide (x%2^63=infR)):=by
 refine s0b x 0 V _ ⟨λ_=>(P0t h.1).mono λv V1 _ hv=>⟨_,hv,?_⟩,λh=>absurd h (by simp)⟩
 have h2:=h.2
 have ok:okW (x%2^63):=⟨by omega,by omega⟩
 rw[i0h ok E0g.1,E0g.2]
 have:key (x%2^63)=((x%2^63:Nat):Int):=by unfold key; rw[if_pos (by omega)]
 rw[this]
 congr 2; apply propext; omega
theorem i0j{w:Nat}(h:w<2^63):key w=(w:Int):=by unfold key; rw[if_pos h]
theorem y0y{x:Nat}(hx:x<2^63):x &&& (2^64-1-9218868437227405312)=x%2^52:=by
 have hM:2^64-1-9218868437227405312=2^52*2^11+(2^52-1):=by decide
 rw[hM]
 have h1:(x &&& (2^52*2^11+(2^52-1)))%2^52=x%2^52:=by
  rw[Nat.and_mod_two_pow,Nat.mul_add_mod,Nat.mod_eq_of_lt (by omega:2^52-1<2^52),Nat.and_two_pow_sub_one_eq_mod,Nat.mod_mod]
 have h2:(x &&& (2^52*2^11+(2^52-1))) / 2^52=0:=by
  rw[Nat.and_div_two_pow]
  have e:(2^52*2^11+(2^52-1)) / 2^52=2^11:=by decide
  rw[e]
  apply Nat.eq_of_testBit_eq
  intro i
  rw[Nat.testBit_and,Nat.testBit_two_pow,Nat.zero_testBit]
  by_cases c:11=i
  . subst c
    rw[Nat.testBit_lt_two_pow (by omega:x / 2^52<2^11)]; rfl
  . rw[decide_eq_false c,Bool.and_false]
 omega
theorem z0y{x m e k:Nat}(hw:x=e*2^52+m)(he:e<=2045)(h1:2^52<=m)(h2:m<2^53)(hk:k<=2045) :
 u64.wrap (BitVec.toNat ((BitVec.ofInt u64.bits (u64.wrap (BitVec.toNat ((BitVec.ofInt u64.bits (x:Int)) &&& ~~~(BitVec.ofInt u64.bits 9218868437227405312))))) ||| (BitVec.ofInt u64.bits (u64.wrap ((u64.wrap ((k+1:Nat):Int))*2^(min (Int.toNat 52) (u64.bits)))))))=((k*2^52+m:Nat):Int):=by
 have hx:x<2^63:=by omega
 have a:=x0y (x:=x) (m:=9218868437227405312) (by omega) (by omega)
 rw[y0y hx]at a
 have am:x%2^52=m-2^52:=by omega
 rw[am]at a
 have a9:(((9218868437227405312:Nat)):Int)=9218868437227405312:=rfl
 rw[a9]at a
 rw[a]
 have hp:(2:Int)^(min (Int.toNat 52) u64.bits)=((2^52:Nat):Int):=by decide
 have e3:u64.wrap (u64.wrap ((k+1:Nat):Int)*((2^52:Nat):Int))=(((k+1)*2^52:Nat):Int):=by
  rw[C07 (y:=k+1) (by omega),<-Int.natCast_mul,C07 (by omega)]
 rw[hp,e3,E0l (by omega) (by omega)]
 congr 1
 have hor:=Nat.two_pow_add_eq_or_of_lt (i:=52) (b:=m-2^52) (by omega) (k+1)
 rw[Nat.or_comm,Nat.mul_comm (k+1),<-hor]; omega
theorem I13{n m e t k b c d:Nat}(hv:m*2^e=n*2^c)(h1:k+d=e+t)(h2:52+c=b+d):2^52*m*2^k=n*2^t*2^b:=by
 refine Nat.eq_of_mul_eq_mul_right (Nat.pow_pos (by omega):0<2^d) ?_
 have e1:2^52*m*2^k*2^d=2^52*(m*2^e)*2^t:=by
  rw[Nat.mul_assoc (2^52*m),<-Nat.pow_add,h1,Nat.pow_add]; ac_rfl
 have e2:n*2^t*2^b*2^d=n*2^t*(2^52*2^c):=by
  rw[Nat.mul_assoc (n*2^t),<-Nat.pow_add,<-Nat.pow_add,h2]
 rw[e1,e2,hv]; ac_rfl
theorem k10:Ieee.double.read 4607182418800017408 = .number false (2^52) (-52):=by decide +kernel
theorem A0y:Ieee.double.read 4368491638549381120 = .number false (2^52) (-105):=by decide +kernel
theorem F0l{V:View}{n r:Nat}{s:Int}(h0:n≠0)(hn:n<=2^53)(s0 : -1074<=s)(s1:s<=2^40)(hr:r<infR)(h:rm r=n*2^(s+1074).toNat) :
 a00 prog X0g #[.float .f64 (FloatKind.f64.nearest (n:Int)),.int .i64 s] V λv _=>v = .float .f64 r:=by
 obtain⟨e,m,hw,m1,m2,hv,e0,e1⟩:=Z0p h0 hn
 generalize FloatKind.f64.nearest (n:Int)=x at hw
 have hx63:x<2^63:=by omega
 have hmod:x%2^63=x:=Nat.mod_eq_of_lt hx63
 have hxi:x<infR:=by unfold infR; omega
 have hok:okW x:=⟨by omega,by omega⟩
 have hkey:key x=(x:Int):=i0j hx63
 have hdiv:x / 2^52=e+1:=by omega
 have hmd:x%2^52=m-2^52:=by omega
 have hnl:=s13 h hr h0
 have hlm:n.log2+52=e-1022+52:=by
  have a1:=((Y0h (n:=m) (k:=e) (by omega)).symm.trans (congrArg Nat.log2 hv)).trans (Y0h (n:=n) (k:=1074) h0)
  have a2:m.log2=52:=(Nat.log2_eq_iff (by omega)).2 ⟨m1,m2⟩
  omega
 have hs:s<=1023:=by omega
 refine b0f x s V _ ⟨λh=>absurd h (by simp),λ_ => ?_⟩
 refine a00.mono (a0f x s V (λv _=>v = .float .f64 r) ⟨λhz => ?_,λ_ => ?_⟩) (λv V1 _ hv=>⟨r,hv,rfl⟩)
 . exfalso
   rw[z0f hok (by decide),hkey]at hz
   have:key 0=0:=by decide
   rw[this]at hz
   simp only[decide_eq_true_eq]at hz
   omega
 refine(x0q hok).mono λv V1 l1 hv1=>⟨_,hv1,λhc => ?_,λ_ => ?_⟩
 . exfalso; simp only[decide_eq_true_eq]at hc; omega
 refine(u09 (by omega:x<2^64)).mono λv V2 l2 hv2=>⟨_,hv2,λhc => ?_,λ_ => ?_⟩
 . exfalso; simp only[decide_eq_true_eq]at hc; exact hc hok
 have hnorm:a00 prog A0h #[.float .f64 x] V2 λv _=>v = .tuple #[.float .f64 x,.int .i64 0]:=by
  refine s0g x V2 _ ((P0t (by omega:x<2^64)).mono λv V3 l3 hv3=>⟨_,hv3,λhc => ?_,λ_=>rfl⟩)
  exfalso
  rw[hmod,J0x hok (by decide),hkey]at hc
  have:key 4503599627370496=4503599627370496:=by decide
  rw[this]at hc
  simp only[decide_eq_true_eq]at hc
  omega
 refine hnorm.mono λv V3 l3 hv3=>⟨x,0,hv3,x,L0f x,?_⟩
 have hE:i64.wrap (i64.wrap (s+0)+i64.wrap (i64.wrap (BitVec.toNat ((BitVec.ofInt i64.bits (i64.wrap (Int.fdiv (x:Int) (2^(min (Int.toNat 52) u64.bits))))) &&& (BitVec.ofInt i64.bits 2047)))-1023))=s+(e:Int)-1022:=by
  have hp:(2:Int)^(min (Int.toNat 52) u64.bits)=((2^52:Nat):Int):=by decide
  have hd:Int.fdiv (x:Int) ((2^52:Nat):Int)=((e+1:Nat):Int):=by
   rw[Int.fdiv_eq_ediv_of_nonneg _ (by omega),<-Int.natCast_ediv,hdiv]
  rw[hp,hd,i64w (n:=((e+1:Nat):Int)) (by omega) (by omega),BitVec.toNat_and]
  have b1:(BitVec.ofInt i64.bits ((e+1:Nat):Int)).toNat=e+1:=w0y (by omega)
  have b2:(BitVec.ofInt i64.bits 2047).toNat=2^11-1:=by decide
  rw[b1,b2,Nat.and_two_pow_sub_one_eq_mod,Nat.mod_eq_of_lt (by omega),i64w (n:=((e+1:Nat):Int)) (by omega) (by omega),i64w (n:=((e+1:Nat):Int)-1023) (by omega) (by omega),i64w (n:=s+0) (by omega) (by omega),i64w (by omega) (by omega)]
  omega
 rw[hE]
 refine⟨λhc => ?_,λ_=>⟨λhc => ?_,λ_=>⟨λhc => ?_,λhc => ?_⟩⟩⟩
 . exfalso; simp only[decide_eq_true_eq]at hc; omega
 . exfalso; simp only[decide_eq_true_eq]at hc; omega
 . simp only[decide_eq_true_eq]at hc
   obtain⟨k,hk⟩:∃k:Nat,(k:Int)=s+e+53:=⟨(s+e+53).toNat,by omega⟩
   have hk5:k<=2045:=by omega
   have w1:i64.wrap (i64.wrap (s+(e:Int)-1022+53)+1023)=((k+1:Nat):Int):=by
    rw[i64w (n:=s+(e:Int)-1022+53) (by omega) (by omega),i64w (by omega) (by omega)]; omega
   rw[w1,z0y hw (by omega) m1 m2 hk5]
   refine⟨_,H0b _,r,Y0p A0y (X0p hk5 m1 m2) hr (by omega) (by omega) (a:=k) (b:=105) (by omega) ?_,rfl⟩
   rw[h]
   exact I13 (d:=1021) hv (by omega) (by omega)
 . simp only[decide_eq_false_iff_not]at hc
   obtain⟨k,hk⟩:∃k:Nat,(k:Int)=s+e:=⟨(s+e).toNat,by omega⟩
   have hk5:k<=2045:=by omega
   have w1:i64.wrap (s+(e:Int)-1022+1023)=((k+1:Nat):Int):=by
    rw[i64w (by omega) (by omega)]; omega
   rw[w1,z0y hw (by omega) m1 m2 hk5]
   refine⟨_,H0b _,r,Y0p k10 (X0p hk5 m1 m2) hr (by omega) (by omega) (a:=k) (b:=52) (by omega) ?_,rfl⟩
   rw[h]
   exact I13 (d:=1074) hv (by omega) (by omega)
theorem i0w{V:View}{s:Int}:a00 prog X0g #[.float .f64 (FloatKind.f64.nearest 0),.int .i64 s] V λv _=>v = .float .f64 0:=by
 rw[H0h]
 refine b0f 0 s V _ ⟨λh=>absurd h (by simp),λ_ => ?_⟩
 refine a00.mono (a0f 0 s V (λv _=>v = .float .f64 0) ⟨λ_=>rfl,λhz => ?_⟩) (λv V1 _ hv=>⟨0,hv,rfl⟩)
 exfalso; revert hz; decide
theorem j0j{V:View}{x:Nat}(h:x<2^64):a00 prog f0p #[.float .f64 x] V λv _=>v = .bool (decide (x%2^63<infR)):=by
 refine K0m x V _ ((u09 h).mono λv V1 _ hv=>⟨_,hv,λhc => ?_,λhc => ?_⟩)
 . have hok:okW x:=by simpa using hc
   refine(x0q hok).mono λv V2 _ hv=>⟨_,hv,?_⟩
   have:=hok.2
   by_cases c:x%2^63=infR
   . rw[decide_eq_true c,decide_eq_false (by omega)]; rfl
   . rw[decide_eq_false c,decide_eq_true (by omega)]; rfl
 . have hok:¬okW x:=by simpa using hc
   have:¬x%2^63<infR:=λc=>hok ⟨h,by omega⟩
   rw[decide_eq_false this]
def fld(x:Nat):Nat:=x / 2^52%2048
def mant(x:Nat):Nat:=if fld x=0 then x%2^52 else x%2^52+2^52
def up1(x:Nat):Nat:=if fld x=0 then 1 else fld x
def sgI(x:Nat)(n:Nat):Int:=if 2^63<=x then -(n:Int)else n
theorem k0j(x:Nat):mant x<2^53:=by unfold mant; split<;>omega
theorem d12(x:Nat):rm (x%2^63)=mant x*2^(up1 x-1):=by
 have hf:x%2^63 / 2^52=fld x:=by unfold fld; omega
 have hm:x%2^63%2^52=x%2^52:=by omega
 unfold rm mant up1
 rw[hf,hm]
 by_cases c:fld x=0
 . rw[if_pos (by omega),if_pos c,if_pos c]; simp; omega
 . rw[if_neg (by omega),if_neg c,if_neg c,Nat.add_comm]
theorem J13{x:Nat}(h:x<2^64):kz (key x)=sgI x (rm (x%2^63)):=by
 unfold kz sgI
 rw[z0n h]
 by_cases c:2^63<=x
 . rw[if_pos c]
   by_cases z:key x<0
   . rw[if_pos z]
   . rw[if_neg z]
     have:x%2^63=0:=by unfold key at z; split at z<;>omega
     rw[this,Y0i]; rfl
 . rw[if_neg c,if_neg (by unfold key; rw[if_pos (by omega)]; omega)]
theorem z0d{x m:Nat}(hx:x<2^64)(hm:m<2^64):u64.wrap (BitVec.toNat ((BitVec.ofInt u64.bits (x:Int)) &&& (BitVec.ofInt u64.bits (m:Int))))=((x &&& m:Nat):Int):=by
 have h2:x &&& m<=x:=Nat.and_le_left
 rw[BitVec.toNat_and,F0g hx,F0g hm]
 exact C07 (by omega)
theorem M0f{x k:Nat}:Int.fdiv (x:Int) ((2^k:Nat):Int)=((x / 2^k:Nat):Int):=by
 rw[Int.fdiv_eq_ediv_of_nonneg _ (Int.natCast_nonneg _),<-Int.natCast_ediv]
theorem G0g(x:Nat):1<=up1 x/\up1 x<=2047:=by
 have:fld x<2048:=by unfold fld; omega
 unfold up1
 by_cases c:fld x=0
 . rw[if_pos c]; omega
 . rw[if_neg c]; omega
theorem d11(x:Nat):(if(1:Int)>(fld x:Int)then(1:Int)else(fld x:Int))=(up1 x:Int):=by
 unfold up1
 by_cases c:fld x=0
 . rw[if_pos (by omega),if_pos c]; rfl
 . rw[if_neg (by omega),if_neg c]
def fq(x:Nat):Rat:=(kz (key x):Rat) / ((2^1074:Nat):Rat)
theorem G0l{V:View}{x:Nat}(h:finW x):a00 prog X0r #[.float .f64 x] V λv V'=>∃r:WhV,v = .tuple #[r.val,.int .i64 ((up1 x:Int)-1075)]/\d02 V' r (sgI x (mant x)):=by
 have h64:=h.1
 have hfl:fld x<2048:=by unfold fld; omega
 have hp52:(2:Int)^(min (Int.toNat 52) u64.bits)=((2^52:Nat):Int):=by decide
 have hp63:(2:Int)^(min (Int.toNat 63) u64.bits)=((2^63:Nat):Int):=by decide
 have e1:i64.wrap (u64.wrap (BitVec.toNat ((BitVec.ofInt u64.bits (Int.fdiv (x:Int) (2^(min (Int.toNat 52) (u64.bits))))) &&& (BitVec.ofInt u64.bits 2047))))=(fld x:Int):=by
  have:=z0d (x:=x / 2^52) (m:=2047) (by omega) (by omega)
  have e:x / 2^52 &&& 2047=fld x:=Nat.and_two_pow_sub_one_eq_mod (x / 2^52) 11
  rw[e]at this
  rw[hp52,M0f]
  rw[show(((2047:Nat)):Int)=2047 from rfl]at this
  rw[this,i64w (by omega) (by omega)]
 have e2:u64.wrap (BitVec.toNat ((BitVec.ofInt u64.bits (x:Int)) &&& (BitVec.ofInt u64.bits 4503599627370495)))=((x%2^52:Nat):Int):=by
  have:=z0d (x:=x) (m:=4503599627370495) (by omega) (by omega)
  have e:x &&& 4503599627370495=x%2^52:=Nat.and_two_pow_sub_one_eq_mod x 52
  rw[e]at this
  exact this
 have e3:((Int.fdiv (x:Int) (2^(min (Int.toNat 63) (u64.bits))):Int)==1)=decide (2^63<=x):=by
  rw[hp63,M0f]
  by_cases c:2^63<=x
  . have:x / 2^63=1:=by omega
    rw[this,decide_eq_true c]; rfl
  . have:x / 2^63=0:=by omega
    rw[this,decide_eq_false c]; rfl
 refine k0p x V _ ⟨x,L0f x,?_⟩
 rw[e1,e2,e3]
 have hw:∀ {V1:View} {s:Sl} {n:Nat},o00 V1 s n->n=mant x->a00 prog n0b #[.bool (decide (2^63<=x)),s.v] V1 λv V'=>∃r:WhV,v=r.val/\d02 V' r (sgI x (mant x)):=by
  intro V1 s n hs hn
  refine(l03 (decide (2^63<=x)) hs).mono λv V2 _ ⟨r,hv,hr⟩=>⟨r,hv,?_⟩
  subst hn
  unfold sgI
  by_cases c:2^63<=x
  . rw[decide_eq_true c]at hr; rw[if_pos c]; simpa using hr
  . rw[decide_eq_false c]at hr; rw[if_neg c]; simpa using hr
 refine⟨λhc => ?_,λhc => ?_⟩
 . simp only[decide_eq_true_eq]at hc
   have e4:u64.wrap (BitVec.toNat ((BitVec.ofInt u64.bits ((x%2^52:Nat):Int)) ||| (BitVec.ofInt u64.bits 4503599627370496)))=((mant x:Nat):Int):=by
    have:=E0l (x:=x%2^52) (m:=4503599627370496) (by omega) (by omega)
    have hor:=Nat.two_pow_add_eq_or_of_lt (i:=52) (b:=x%2^52) (by omega) 1
    have e:x%2^52 ||| 4503599627370496=mant x:=by
     rw[Nat.or_comm]
     have h1:2^52*1=4503599627370496:=by decide
     rw[h1]at hor
     rw[<-hor]; unfold mant; rw[if_neg (by omega)]; omega
    rw[e]at this
    exact this
   rw[e4]
   have:=k0j x
   refine(K06 (n:=((mant x:Nat):Int)) (by omega) (by omega)).mono λv V1 _ ⟨s,hv,hs⟩=>⟨s,hv,?_⟩
   refine(hw hs (by omega)).mono λv V2 _ ⟨r,hv,hr⟩=>⟨r,hv,r,?_,hr⟩
   have hu:=G0g x
   rw[d11 x,i64w (by omega) (by omega)]
 . simp only[decide_eq_false_iff_not]at hc
   have hf0:fld x=0:=by omega
   have em:x%2^52=mant x:=by unfold mant; rw[if_pos hf0]
   rw[em]
   have:=k0j x
   refine(K06 (n:=((mant x:Nat):Int)) (by omega) (by omega)).mono λv V1 _ ⟨s,hv,hs⟩=>⟨s,hv,?_⟩
   refine(hw hs (by omega)).mono λv V2 _ ⟨r,hv,hr⟩=>⟨r,hv,r,?_,hr⟩
   have hu:=G0g x
   rw[d11 x,i64w (by omega) (by omega)]
theorem s06(k:Nat):bl (2^k)<=k+1:=j02 (by rw[Nat.pow_succ]; have:0<2^k:=Nat.pow_pos (by omega); omega)
theorem f12(x k:Nat):bl (mant x*2^k)<=54+k:=by
 have h1:=Z0d (mant x) (2^k)
 have h2:bl (mant x)<=53:=j02 (k0j x)
 have h3:=s06 k
 omega
theorem B0y(x a b:Nat):sgI x a*(b:Int)=sgI x (a*b):=by
 unfold sgI; split
 . rw[Int.neg_mul,Int.natCast_mul]
 . rw[Int.natCast_mul]
theorem l0j(x a:Nat):(sgI x a).natAbs=a:=by unfold sgI; split<;>omega
theorem C0y:(2^1074:Nat)≠0:=by
 exact Nat.pos_iff_ne_zero.1 (Nat.pow_pos (a:=2) (n:=1074) (by omega))
theorem P0n{x k:Nat}{n:Nat}(h:x<2^64)(hn:(n:Int)=(up1 x:Int)-1075+k):fq x=(sgI x (mant x*2^n):Rat) / ((2^k:Nat):Rat):=by
 have hk:(2^k:Nat)≠0:=by
  have:0<2^k:=Nat.pow_pos (by omega)
  omega
 unfold fq
 rw[D02 C0y hk,J13 h,d12,B0y,B0y]
 have:=G0g x
 have e:up1 x-1+k=n+1074:=by omega
 rw[Nat.mul_assoc,Nat.mul_assoc,<-Nat.pow_add 2 (up1 x-1) k,<-Nat.pow_add 2 n 1074,e]
theorem g14{x:Nat}{z:Rat}{k n j m:Nat}{y:Nat}(h:x<2^64)(hy:y<2^64)(hn:(n:Int)=(up1 x:Int)-1075+k)(hm:(m:Int)=(up1 y:Int)-1075+k):Rep ⟨fq x,fq y⟩ (sgI x (mant x*2^n)) (sgI y (mant y*2^m)) (2^k) :=
 ⟨by have : 0 < 2 ^ k := Nat.pow_pos (by omega)
     omega,P0n h hn,P0n hy hm⟩
theorem H0l{V:View}{b:Nat}(hb:V b=some #[.int .u32 1]):o00 V ⟨some ⟨b,0,none⟩,1,1⟩ 1:=by
 have:dig 1=[1]:=by rw[T05 (by omega)]; simp[p04]
 unfold o00; rw[this]
 exact A01.of_block (by rw[hb]; rfl) rfl (Nat.le_refl _) (by intro d hd; simp at hd; omega)
theorem Q0t:wn 1<=2^43:=wn64 (by omega)
theorem y0q{V:View}{c:CxV}(h1:finW c.re)(h2:finW c.im) :
 a00 prog C0m #[.complex .f64 c.re c.im] V λv V'=>∃r:NumV,v = .tuple #[r.val,.int .i64 0]/\T00 V' r ⟨fq c.re,fq c.im⟩:=by
 have f1:decide (c.re%2^63<infR)=true:=decide_eq_true h1.2
 have f2:decide (c.im%2^63<infR)=true:=decide_eq_true h2.2
 have u1:=G0g c.re
 have u2:=G0g c.im
 refine e0k c V _ ((j0j h1.1).mono λv V1 l1 hv=>⟨_,hv,λhc => ?_,λ_ => ?_⟩)
 . rw[f1]at hc; simp at hc
 refine(j0j h2.1).mono λv V2 l2 hv=>⟨_,hv,λhc => ?_,λ_ => ?_⟩
 . rw[f2]at hc; simp at hc
 refine(G0l h1).mono λv V3 l3 ⟨a,hv,ha⟩=>⟨a,_,hv,?_⟩
 refine(G0l h2).mono λv V4 l4 ⟨b,hv,hb⟩=>⟨b,_,hv,?_⟩
 obtain⟨k,hk,hk2⟩:∃k:Nat,(if(i64.wrap (0-((up1 c.im:Int)-1075)):Int)>(if(i64.wrap (0-((up1 c.re:Int)-1075)):Int)>0 then i64.wrap (0-((up1 c.re:Int)-1075))else 0)then i64.wrap (0-((up1 c.im:Int)-1075))else(if(i64.wrap (0-((up1 c.re:Int)-1075)):Int)>0 then i64.wrap (0-((up1 c.re:Int)-1075))else 0))=(k:Int)/\1075-(up1 c.re:Int)<=k/\1075-(up1 c.im:Int)<=k/\k<=1074:=by
  rw[i64w (n:=0-((up1 c.im:Int)-1075)) (by omega) (by omega),i64w (n:=0-((up1 c.re:Int)-1075)) (by omega) (by omega)]
  by_cases g1:0-((up1 c.re:Int)-1075)>0
  . rw[if_pos g1]
    by_cases g2:0-((up1 c.im:Int)-1075)>0-((up1 c.re:Int)-1075)
    . rw[if_pos g2]; exact⟨(0-((up1 c.im:Int)-1075)).toNat,by omega,by omega,by omega,by omega⟩
    . rw[if_neg g2]; exact⟨(0-((up1 c.re:Int)-1075)).toNat,by omega,by omega,by omega,by omega⟩
  . rw[if_neg g1]
    by_cases g2:0-((up1 c.im:Int)-1075)>0
    . rw[if_pos g2]; exact⟨(0-((up1 c.im:Int)-1075)).toNat,by omega,by omega,by omega,by omega⟩
    . rw[if_neg g2]; exact⟨0,by omega,by omega,by omega,by omega⟩
 rw[hk]
 obtain⟨n,hn⟩:∃n:Nat,(n:Int)=(up1 c.re:Int)-1075+k:=⟨((up1 c.re:Int)-1075+k).toNat,by omega⟩
 obtain⟨m,hm⟩:∃m:Nat,(m:Int)=(up1 c.im:Int)-1075+k:=⟨((up1 c.im:Int)-1075+k).toNat,by omega⟩
 have w1:i64.wrap ((up1 c.re:Int)-1075+k)=(n:Int):=by rw[i64w (by omega) (by omega),hn]
 have w2:i64.wrap ((up1 c.im:Int)-1075+k)=(m:Int):=by rw[i64w (by omega) (by omega),hm]
 rw[w1,w2]
 have ma:=ha.2
 have mb:=hb.2
 rw[l0j]at ma mb
 have wa:∀x,wn (mant x)<=2^43:=λx=>wn64 (by have:=k0j x; omega)
 have wb:∀x j,j<=4000->wn (mant x*2^j)<=2^43:=λx j hj=>j09 (by have:=f12 x j; omega)
 have neg:∀(y:Nat) (r:WhV),d02 V4 r (sgI y (mant y))->mant y≠0->r.neg=decide (2^63<=y):=by
  intro y r hr h0
  rw[hr.1]
  unfold sgI
  by_cases g:2^63<=y
  . rw[if_pos g,decide_eq_true g,decide_eq_true (by omega)]
  . rw[if_neg g,decide_eq_false g,decide_eq_false (by omega)]
 have whole:∀ {W:View} {s:Sl} (y:Nat) (r:WhV) (j:Nat),d02 V4 r (sgI y (mant y))->o00 W s (mant y*2^j)->a00 prog n0b #[.bool r.neg,s.v] W λv V'=>∃q:WhV,v=q.val/\d02 V' q (sgI y (mant y*2^j)):=by
  intro W s y r j hr hs
  refine(l03 r.neg hs).mono λv V' _ ⟨q,hv,hq⟩=>⟨q,hv,?_⟩
  by_cases h0:mant y=0
  . rw[h0,Nat.zero_mul]at hq ⊢
    have e:(if r.neg=true then -((0:Nat):Int)else((0:Nat):Int))=0:=by split<;>rfl
    rw[e]at hq
    have e2:sgI y 0=0:=by unfold sgI; split<;>rfl
    rw[e2]; exact hq
  . rw[neg y r hr h0]at hq
    unfold sgI
    by_cases g:2^63<=y
    . rw[if_pos g]; rw[decide_eq_true g]at hq; simpa using hq
    . rw[if_neg g]; rw[decide_eq_false g]at hq; simpa using hq
 have ha4:=ha.le l4
 have wa44:∀x,wn (mant x)<=2^44:=λx=>Nat.le_trans (wa x) (by decide)
 refine(z04 (ma.le l4) (wa44 c.re) (by omega)).mono λv V5 l5 ⟨s,hv,hs⟩=>⟨s,hv,?_⟩
 refine(whole c.re a n ha4 hs).mono λv V6 l6 ⟨p,hv,hp⟩=>⟨p,hv,?_⟩
 refine(z04 (mb.le (View.le_trans l5 l6)) (wa44 c.im) (by omega)).mono λv V7 l7 ⟨s',hv,hs'⟩=>⟨s',hv,?_⟩
 refine(whole c.im b m hb hs').mono λv V8 l8 ⟨q,hv,hq⟩=>⟨q,hv,λb1 V9 l9 hf hb1 => ?_⟩
 have one:o00 V9 ⟨some ⟨b1,0,none⟩,1,1⟩ 1:=H0l hb1
 refine(z04 one (Nat.le_trans Q0t (by decide)) (by omega:k<=2^44)).mono λv V10 l10 ⟨s2,hv,hs2⟩=>⟨s2,hv,?_⟩
 rw[Nat.one_mul]at hs2
 have R:=g14 (z:=0) (j:=0) h1.1 h2.1 hn hm
 refine(I03 (hp.le (View.le_trans l7 (View.le_trans l8 (View.le_trans l9 l10)))) (hq.le (View.le_trans l9 l10)) hs2 R (by rw[l0j]; exact wb _ _ (by omega)) (by rw[l0j]; exact wb _ _ (by omega)) (j09 (by have:=s06 k; omega))).mono λv V11 l11 ⟨r,hv,hr⟩=>⟨r,hv,r,rfl,hr⟩
theorem f0t{z:Cq}{A B:Int}{D:Nat}(h:Rep z A B D):Rep ⟨z.re,0⟩ A 0 D:=⟨h.pos,h.re,by simp[Rat.div_def]⟩
theorem i0z{z:Cq}{A B:Int}{D:Nat}(h:Rep z A B D):Rep ⟨z.im,0⟩ B 0 D:=⟨h.pos,h.im,by simp[Rat.div_def]⟩
theorem e11(z:Cq):(⟨z.re,0⟩:Cq).sz<=z.sz+1 :=
 (f0t z.canon.rep).sz (by have:=z.szA; omega) (by rw[Int.natAbs_zero,B0b]; omega) (by have:=z.szD; omega)
theorem f11(z:Cq):(⟨z.im,0⟩:Cq).sz<=z.sz+1 :=
 (i0z z.canon.rep).sz (by have:=z.szB; omega) (by rw[Int.natAbs_zero,B0b]; omega) (by have:=z.szD; omega)
theorem m0j{V:View}{x:NumV}{z:Cq}(h:T00 V x z)(hz:z.sz<=2^40):a00 prog y0z #[x.val] V λv V'=>∃r:NumV,v=r.val/\T00 V' r ⟨z.re,0⟩:=by
 have zA:=Cq.wA hz; have zB:=Cq.wB hz; have zD:=Cq.wD hz
 refine w0x x V _ ((B01 h).mono λv V1 l1 ⟨d,hv,hd⟩=>⟨d,hv,?_⟩)
 exact(I03 (h.re.le l1) (d02.zero V1) hd (f0t z.canon.rep) (by omega) (by rw[Int.natAbs_zero,w06]; omega) (by omega)).mono λv V2 _ ⟨r,hv,hr⟩=>⟨r,hv,r,rfl,hr⟩
theorem n0j{V:View}{x:NumV}{z:Cq}(h:T00 V x z)(hz:z.sz<=2^40):a00 prog z0z #[x.val] V λv V'=>∃r:NumV,v=r.val/\T00 V' r ⟨z.im,0⟩:=by
 have zA:=Cq.wA hz; have zB:=Cq.wB hz; have zD:=Cq.wD hz
 refine x0x x V _ ((B01 h).mono λv V1 l1 ⟨d,hv,hd⟩=>⟨d,hv,?_⟩)
 exact(I03 (h.im.le l1) (d02.zero V1) hd (i0z z.canon.rep) (by omega) (by rw[Int.natAbs_zero,w06]; omega) (by omega)).mono λv V2 _ ⟨r,hv,hr⟩=>⟨r,hv,r,rfl,hr⟩
theorem D0y{z:Cq}:z.A=0↔z.re=0:=by
 have h:=z.canon.rep
 have hD:=b04 h.pos
 rw[h.re]
 constructor
 . intro e; rw[e]; simp[Rat.div_def]
 . intro e
   have:(z.A:Rat)=0:=by
    have:(z.A:Rat)=(z.A:Rat) / (z.D:Rat)*(z.D:Rat):=by rw[Rat.div_mul_cancel hD]
    rw[this,e]; simp
   exact_mod_cast this
theorem B_zero{z:Cq}:z.B=0↔z.im=0:=by
 have h:=z.canon.rep
 have hD:=b04 h.pos
 rw[h.im]
 constructor
 . intro e; rw[e]; simp[Rat.div_def]
 . intro e
   have:(z.B:Rat)=0:=by
    have:(z.B:Rat)=(z.B:Rat) / (z.D:Rat)*(z.D:Rat):=by rw[Rat.div_mul_cancel hD]
    rw[this,e]; simp
   exact_mod_cast this
theorem c0e{V:View}{x:NumV}{z:Cq}(h:T00 V x z)(hz:z.sz<=2^40):a00 prog w0i #[x.val] V λv _=>v = .bool (decide (z≠Cq.zero)):=by
 have zA:=Cq.wA hz; have zB:=Cq.wB hz
 refine l0p x V _ ?_
 have a1:=h.re.2.len; have a2:=h.im.2.len
 have b1:=h.re.2.len_zero; have b2:=h.im.2.len_zero
 have c1:x.re.mag.len<=2^50:=by
  have:x.re.mag.len=wn z.A.natAbs:=by rw[wn]; exact a1.symm▸rfl
  omega
 have c2:x.im.mag.len<=2^50:=by
  have:x.im.mag.len=wn z.B.natAbs:=by rw[wn]; exact a2.symm▸rfl
  omega
 rw[i64w (by omega) (by omega)]
 have d1:x.re.mag.len=0↔z.re=0:=by rw[b1,<-D0y]; omega
 have d2:x.im.mag.len=0↔z.im=0:=by rw[b2,<-B_zero]; omega
 have e:(z≠Cq.zero)↔((x.re.mag.len:Int)+(x.im.mag.len:Int)>0):=by
  constructor
  . intro hne
    rcases Nat.eq_zero_or_pos x.re.mag.len with p|p
    . rcases Nat.eq_zero_or_pos x.im.mag.len with q|q
      . exact absurd (Cq.ext' (d1.1 p) (d2.1 q)) hne
      . omega
    . omega
  . rintro hp rfl
    have p:=d1.2 rfl; have q:=d2.2 rfl
    omega
 simp only[e]
theorem Rep.div{z w:Cq}{A B a b:Int}{D d n:Nat}(hw:Rep w A B D)(ht:Rep (z*⟨(A:Rat),-(B:Rat)⟩) a b d)(hn:(n:Int)=A*A+B*B)(h0:n≠0):Rep (z.div w) (a*D) (b*D) (d*n):=by
 have hD:=b04 hw.pos
 have hd:=b04 ht.pos
 have hn0:=b04 h0
 have hN:(n:Rat)=(A:Rat)*A+B*B:=by exact_mod_cast hn
 have t1:=ht.re; have t2:=ht.im
 rw[p03]at t1; rw[q03]at t2
 dsimp only at t1 t2
 refine⟨Nat.mul_ne_zero ht.pos h0,?_,?_⟩
 . show(z.re*w.re+z.im*w.im) / (w.re*w.re+w.im*w.im)=_
   rw[hw.re,hw.im,Rat.intCast_mul,Rat.natCast_mul,Rat.intCast_natCast]
   have e1:z.re*((A:Rat) / (D:Rat))+z.im*((B:Rat) / (D:Rat))=(a:Rat) / (d:Rat) / (D:Rat):=by rw[<-t1]; grind
   have e2:(A:Rat) / (D:Rat)*((A:Rat) / (D:Rat))+(B:Rat) / (D:Rat)*((B:Rat) / (D:Rat))=(n:Rat) / ((D:Rat)*(D:Rat)):=by rw[hN]; grind
   rw[e1,e2]; grind
 . show(z.im*w.re-z.re*w.im) / (w.re*w.re+w.im*w.im)=_
   rw[hw.re,hw.im,Rat.intCast_mul,Rat.natCast_mul,Rat.intCast_natCast]
   have e1:z.im*((A:Rat) / (D:Rat))-z.re*((B:Rat) / (D:Rat))=(b:Rat) / (d:Rat) / (D:Rat):=by rw[<-t2]; grind
   have e2:(A:Rat) / (D:Rat)*((A:Rat) / (D:Rat))+(B:Rat) / (D:Rat)*((B:Rat) / (D:Rat))=(n:Rat) / ((D:Rat)*(D:Rat)):=by rw[hN]; grind
   rw[e1,e2]; grind
theorem M0g(A B:Int):Rep ⟨(A:Rat),-(B:Rat)⟩ A (-B) 1:=by
 refine⟨by omega,?_,?_⟩
 . rw[Rat.div_def]; simp; grind
 . rw[Rat.div_def]; simp; grind
theorem S0c{V:View}{x y:NumV}{z w:Cq}(hx:T00 V x z)(hy:T00 V y w)(hz:z.sz<=2^36)(hw:w.sz<=2^36) :
 a00 prog H0o #[x.val,y.val] V λv V'=>∃(r:NumV) (e:Int),v = .tuple #[r.val,.int .i64 e]/\(w=Cq.zero->e=3/\T00 V' r Cq.zero)/\(w≠Cq.zero->e=0/\T00 V' r (z.div w)):=by
 have hw40:w.sz<=2^40:=by omega
 have wA:=Cq.wA hw40; have wB:=Cq.wB hw40; have wD:=Cq.wD hw40
 have sA:=w.szA; have sB:=w.szB; have sD:=w.szD
 refine G0v x y V _ ((c0e hy hw40).mono λv V1 l1 hv=>⟨_,hv,λhc => ?_,λhc => ?_⟩)
 . have hc:w=Cq.zero:=by simpa using hc
   exact⟨_,_,rfl,λ_=>⟨rfl,T00.zero V1⟩,λh=>absurd hc h⟩
 have hc:w≠Cq.zero:=by simpa using hc
 replace hx:=hx.le l1; replace hy:=hy.le l1
 have m1:=Y03 wA wA; have m2:=Y03 wB wB
 refine(S04 hy.re hy.re (by omega) (by omega)).mono λv V2 l2 ⟨r2,hv,h2⟩=>⟨r2,hv,?_⟩
 replace hx:=hx.le l2; replace hy:=hy.le l2
 refine(S04 hy.im hy.im (by omega) (by omega)).mono λv V3 l3 ⟨r3,hv,h3⟩=>⟨r3,hv,?_⟩
 replace hx:=hx.le l3; replace hy:=hy.le l3; replace h2:=h2.le l3
 refine(w05 h2 h3 (by omega) (by omega)).mono λv V4 l4 ⟨r4,hv,h4⟩=>⟨r4,hv,?_⟩
 replace hx:=hx.le l4; replace hy:=hy.le l4
 refine(m03 hy.im).mono λv V5 l5 ⟨r5,hv,h5⟩=>⟨r5,hv,λb1 V6 l6 _ hb1 => ?_⟩
 replace hx:=hx.le (View.le_trans l5 l6); replace hy:=hy.le (View.le_trans l5 l6); replace h4:=h4.le (View.le_trans l5 l6); replace h5:=h5.le l6
 refine(I03 hy.re h5 (H0l hb1) (M0g w.A w.B) (by omega) (by rw[Int.natAbs_neg]; omega) Q0t).mono λv V7 l7 ⟨r6,hv,h6⟩=>⟨r6,hv,?_⟩
 replace hx:=hx.le l7; replace hy:=hy.le l7; replace h4:=h4.le l7
 have cs:(⟨(w.A:Rat),-(w.B:Rat)⟩:Cq).sz<=2^36+1:=(M0g w.A w.B).sz (by omega) (by rw[Int.natAbs_neg]; omega) (by rw[D0x]; omega)
 refine(A04 hx h6 (by omega) (by omega)).mono λv V8 l8 ⟨r7,hv,h7⟩=>⟨r7,hv,?_⟩
 replace hy:=hy.le l8; replace h4:=h4.le l8
 have ts:=Z03 z ⟨(w.A:Rat),-(w.B:Rat)⟩
 have ts40:(z*⟨(w.A:Rat),-(w.B:Rat)⟩).sz<=2^40:=by omega
 have tA:=Cq.wA ts40; have tB:=Cq.wB ts40; have tD:=Cq.wD ts40
 refine(B01 hy).mono λv V9 l9 ⟨r8,hv,h8⟩=>⟨r8,hv,?_⟩
 replace hy:=hy.le l9; replace h4:=h4.le l9; replace h7:=h7.le l9
 refine(Y01 h7.re h8 (by omega) (by omega)).mono λv V10 l10 ⟨r9,hv,h9⟩=>⟨r9,hv,?_⟩
 replace hy:=hy.le l10; replace h4:=h4.le l10; replace h7:=h7.le l10
 refine(B01 hy).mono λv V11 l11 ⟨r10,hv,h10⟩=>⟨r10,hv,?_⟩
 replace h4:=h4.le l11; replace h7:=h7.le l11; replace h9:=h9.le l11
 refine(Y01 h7.im h10 (by omega) (by omega)).mono λv V12 l12 ⟨r11,hv,h11⟩=>⟨r11,hv,?_⟩
 replace h4:=h4.le l12; replace h7:=h7.le l12; replace h9:=h9.le l12
 refine(B01 h7).mono λv V13 l13 ⟨r12,hv,h12⟩=>⟨r12,hv,?_⟩
 replace h4:=h4.le l13; replace h9:=h9.le l13; replace h11:=h11.le l13
 have n1:=G0b m1 m2
 refine(D08 h12 h4.2 (by omega) (by omega)).mono λv V14 l14 ⟨r13,hv,h13⟩=>⟨r13,hv,?_⟩
 replace h9:=h9.le l14; replace h11:=h11.le l14
 have p1:=z08 (z*⟨(w.A:Rat),-(w.B:Rat)⟩).D (w.A*w.A+w.B*w.B).natAbs
 have q1:=Y03 tA (b:=(w.D:Int)) (by rw[Int.natAbs_natCast]; exact wD)
 have q2:=Y03 tB (b:=(w.D:Int)) (by rw[Int.natAbs_natCast]; exact wD)
 have hsq:(0:Int)<=w.A*w.A+w.B*w.B:=Int.add_nonneg (by rw[<-Int.natAbs_mul_self]; exact Int.natCast_nonneg _) (by rw[<-Int.natAbs_mul_self]; exact Int.natCast_nonneg _)
 refine(I03 h9 h11 h13 (Rep.div w.canon.rep (z*⟨(w.A:Rat),-(w.B:Rat)⟩).canon.rep (Int.natAbs_of_nonneg hsq) ?_) (by omega) (by omega) (by omega)).mono λv V15 _ ⟨r,hv,hr⟩=>⟨r,hv,r,_,rfl,λh=>absurd h hc,λ_=>⟨rfl,hr⟩⟩
 intro h0
 have e0:w.A*w.A+w.B*w.B=0:=Int.natAbs_eq_zero.1 h0
 have a0:w.A=0:=by
  by_cases h:w.A=0
  . exact h
  . have:0<w.A*w.A:=by
      have:0<w.A.natAbs*w.A.natAbs:=Nat.mul_pos (by omega) (by omega)
      rw[<-Int.natAbs_mul_self]; exact_mod_cast this
    have:(0:Int)<=w.B*w.B:=by rw[<-Int.natAbs_mul_self]; exact Int.natCast_nonneg _
    omega
 have b0:w.B=0:=by
  rw[a0]at e0
  have:w.B*w.B=0:=by omega
  rcases Int.mul_eq_zero.1 this with h|h<;>exact h
 exact hc (Cq.ext' (D0y.1 a0) (B_zero.1 b0))
theorem I0l{z w:Cq}{S:Nat}(hz:z.sz<=S)(hw:w.sz<=S):(z.div w).sz<=4*S+8:=by
 have sA:=w.szA; have sB:=w.szB; have sD:=w.szD
 have cs:(⟨(w.A:Rat),-(w.B:Rat)⟩:Cq).sz<=S+1:=(M0g w.A w.B).sz (by omega) (by rw[Int.natAbs_neg]; omega) (by rw[D0x]; omega)
 have ts:=Z03 z ⟨(w.A:Rat),-(w.B:Rat)⟩
 have tA:=(z*⟨(w.A:Rat),-(w.B:Rat)⟩:Cq).szA; have tB:=(z*⟨(w.A:Rat),-(w.B:Rat)⟩:Cq).szB; have tD:=(z*⟨(w.A:Rat),-(w.B:Rat)⟩:Cq).szD
 have hsq:(0:Int)<=w.A*w.A+w.B*w.B:=Int.add_nonneg (by rw[<-Int.natAbs_mul_self]; exact Int.natCast_nonneg _) (by rw[<-Int.natAbs_mul_self]; exact Int.natCast_nonneg _)
 by_cases h0:(w.A*w.A+w.B*w.B).natAbs=0
 . have:z.div w=Cq.zero:=by
     have hr:=w.canon.rep
     have e0:w.A*w.A+w.B*w.B=0:=Int.natAbs_eq_zero.1 h0
     have hn:w.norm=0:=by
      unfold Cq.norm
      rw[hr.re,hr.im]
      have:(w.A:Rat)*w.A+w.B*w.B=0:=by exact_mod_cast e0
      have hD:=b04 hr.pos
      grind
     refine Cq.ext' ?_ ?_
     . show _ / w.norm=0; rw[hn]; simp[Rat.div_def]
     . show _ / w.norm=0; rw[hn]; simp[Rat.div_def]
   rw[this]; have:=x09; omega
 . refine(Rep.div w.canon.rep (z*⟨(w.A:Rat),-(w.B:Rat)⟩).canon.rep (Int.natAbs_of_nonneg hsq) h0).sz ?_ ?_ ?_
   . have:=O08 (z*⟨(w.A:Rat),-(w.B:Rat)⟩).A (w.D:Int); rw[Int.natAbs_natCast]at this; omega
   . have:=O08 (z*⟨(w.A:Rat),-(w.B:Rat)⟩).B (w.D:Int); rw[Int.natAbs_natCast]at this; omega
   . have h1:=Z0d (z*⟨(w.A:Rat),-(w.B:Rat)⟩).D (w.A*w.A+w.B*w.B).natAbs
     have h2:=W0i (a:=w.A*w.A) (b:=w.B*w.B) (k:=2*S) (Nat.le_trans (O08 _ _) (by omega)) (Nat.le_trans (O08 _ _) (by omega))
     omega
def okN(z:Cq):Prop:=z.sz<=2^36
def atN(V:View)(n:NumV)(z:Cq):Prop:=T00 V n z
theorem atN.le{V V':View}(h:V.le V'){n:NumV}{z:Cq}(k:atN V n z):atN V' n z:=T00.le h k
theorem elN{V:View}{x:List Value}{z:Cq}(h:numC V x z):∃n:NumV,x=n.val.cells.toList/\atN V n z:=h
theorem m10{V:View}{n:NumV}{z:Cq}(h:atN V n z):numC V n.val.cells.toList z:=⟨n,rfl,h⟩
theorem lenN(n:NumV):n.val.cells.toList.length=5:=rfl
theorem oneN{V:View}{x:List Value}{z:Cq}(h:numC V x z):∀v∈x,Value.oneCell' v=true:=by
 obtain⟨n,e,_⟩:=h
 subst e
 intro v hv
 rw[F0x]at hv
 simp only[List.mem_cons,List.not_mem_nil,or_false]at hv
 rcases hv with rfl|rfl|rfl|rfl|rfl<;>rfl
theorem zeroN(V:View):numC V [Value.bool false,Value.slice none 0 0,Value.bool false,Value.slice none 0 0,Value.slice none 0 0] Cq.zero:=⟨_,rfl,T00.zero V⟩
theorem K13{V:View}{n:NumV}{z:Cq}(h:atN V n z)(hz:okN z):a00 prog w0i #[n.val] V λv _=>v = .bool (numO.clr z):=c0e h (by unfold okN at hz; omega)
theorem divN{V:View}{n k:NumV}{z w:Cq}(h:atN V n z)(h':atN V k w)(hz:okN z)(hw:okN w)(hc:numO.clr w=true) :
 a00 prog H0o #[n.val,k.val] V λv V'=>∃r:NumV,v = .tuple #[r.val,.int .i64 0]/\atN V' r (numO.div z w):=by
 refine(S0c h h' hz hw).mono λv V' _ ⟨r,e,hv,_,h2⟩ => ?_
 obtain⟨g1,g2⟩:=h2 (D0n.1 hc)
 subst g1
 exact⟨r,hv,g2⟩
theorem E0y{x y u:Cq}(hx:okN x)(hy:okN y)(hu:okN u):(Cq.div x y).sz<=4*2^36+8/\(Cq.div x y*u).sz<=5*2^36+9:=by
 have h1:=I0l hx hy
 have h2:=Z03 (Cq.div x y) u
 unfold okN at hu
 omega
theorem i14{V:View}{n k:NumV}{x y u:Cq}(h:atN V n (numO.div x y))(h':atN V k u)(hx:okN x)(hy:okN y)(hu:okN u) :
 a00 prog x0i #[n.val,k.val] V λv V'=>∃r:NumV,v=r.val/\atN V' r (numO.mul (numO.div x y) u):=by
 have hs:=E0y hx hy hu
 exact A04 (z:=Cq.div x y) (w:=u) h h' (by omega) (by unfold okN at hu; omega)
theorem j14{V:View}{n k:NumV}{z x y u:Cq}(h:atN V n z)(h':atN V k (numO.mul (numO.div x y) u))(hz:okN z)(hx:okN x)(hy:okN y)(hu:okN u) :
 a00 prog y0i #[n.val,k.val] V λv V'=>∃r:NumV,v=r.val/\atN V' r (numO.sub z (numO.mul (numO.div x y) u)):=by
 have hs:=E0y hx hy hu
 exact G08 (z:=z) (w:=Cq.div x y*u) h h' (by unfold okN at hz; omega) (by omega)
theorem mulN{V:View}{n k:NumV}{x y:Cq}(h:atN V n x)(h':atN V k y)(hx:okN x)(hy:okN y) :
 a00 prog x0i #[n.val,k.val] V λv V'=>∃r:NumV,v=r.val/\atN V' r (numO.mul x y) :=
 A04 (z:=x) (w:=y) h h' (by unfold okN at hx; omega) (by unfold okN at hy; omega)
theorem subN{V:View}{n k:NumV}{x y z:Cq}(h:atN V n x)(h':atN V k (numO.mul y z))(hx:okN x)(hy:okN y)(hz:okN z) :
 a00 prog y0i #[n.val,k.val] V λv V'=>∃r:NumV,v=r.val/\atN V' r (numO.sub x (numO.mul y z)):=by
 have:=Z03 y z
 unfold okN at hx hy hz
 exact G08 (z:=x) (w:=y*z) h h' (by omega) (by omega)
theorem J0h{V:View}{s:Sl}{p:Option Addr}{k:Nat}(hp:V.load p=some (.int .i64 (k:Int))) :
 a00 prog u05 #[s.v,.pointer p] V λv _=>v = .bool (decide (s.len≠k)):=by
 refine s0a s p V _ ⟨_,hp,?_⟩
 congr 1
 by_cases e:s.len=k
 . subst e; simp
 . simp[e]; omega
theorem N0f{V:View}{p:Sl}{rows:List (List Cq)}(h:l04 5 numC V p rows)(hn:rows.length<=2^40)(q:Fn1){k:Nat}(hp:V.load q.p0=some (.int .i64 (k:Int))) :
 a00 prog S05 #[p.v,q.val u05] V λv _=>∃r:Int,v = .int .i64 r/\(0<=r↔∃row,row∈rows/\row.length≠k):=by
 have hl:p.len=rows.length:=h.len
 refine O02 p q V _ (λ_ x _=>∃t:Nat,x.t8=t/\t<=rows.length/\∀row,row∈rows.take t->row.length=k) (λ_ x _=>rows.length-x.t8.toNat) ⟨⟨0,rfl,by omega,by simp⟩,?_⟩
 rintro⟨t⟩ V1 l1 ⟨t',ht,htn,hi⟩
 dsimp only at ht ⊢
 subst ht
 refine⟨λhlt => ?_,λhge => ?_⟩
 . simp only[decide_eq_true_eq]at hlt
   have hk:t'<rows.length:=by omega
   obtain⟨g1,s,g2,g3⟩:=(h.le numC.le l1).row (t:=(t':Int)) (by omega) (row:=rows[t']) (by simp)
   refine⟨g1,s,g2,(J0h (Q02 l1 hp)).mono λv V2 l2 hv=>⟨_,hv,λhr=>⟨_,rfl,?_⟩,λhr => ?_⟩⟩
   . have hne:=of_decide_eq_true hr
     rw[g3.len]at hne
     exact⟨λ_=>⟨rows[t'],List.getElem_mem hk,hne⟩,λ_=>by omega⟩
   . have he:s.len=k:=by simpa using hr
     rw[g3.len]at he
     rw[i64w (by omega) (by omega)]
     refine⟨⟨t'+1,by omega,by omega,λrow hrow => ?_⟩,by omega⟩
     rw[List.take_add_one,List.getElem?_eq_getElem hk]at hrow
     simp only[Option.toList_some,List.mem_append,List.mem_singleton]at hrow
     rcases hrow with hrow|hrow
     . exact hi row hrow
     . subst hrow; exact he
 . simp only[decide_eq_false_iff_not]at hge
   have e:t'=rows.length:=by omega
   subst e
   rw[List.take_length]at hi
   exact⟨-1,rfl,λh=>absurd h (by omega),λ⟨row,h1,h2⟩=>absurd (hi row h1) h2⟩
theorem T0c{V:View}{p:Sl}{rows:List (List Cq)}(h:l04 5 numC V p rows)(hn:rows.length<=2^40)(q:Fn1){k:Nat}(hp:V.load q.p0=some (.int .i64 (k:Int))) :
 a00 prog A05 #[p.v,q.val u05] V λv _=>v = .bool (rows.any λrow=>decide (row.length≠k)):=by
 refine w02 p q V _ ((N0f h hn q hp).mono λv V1 l1 ⟨r,hv,hr⟩=>⟨r,hv,?_⟩)
 congr 1
 rw[Bool.eq_iff_iff]
 simp only[ge_iff_le,decide_eq_true_eq,List.any_eq_true]
 exact hr
def P08(rows:List (List Cq)):Nat:=(rows.headD []).length
def o0j(rows:List (List Cq)):Bool:=rows.isEmpty||(decide (rows.length<=32)&&decide (P08 rows<=32) && !(rows.any λrow=>decide (row.length≠P08 rows)))
theorem S08{V:View}{p:Sl}{rows:List (List Cq)}(h:l04 5 numC V p rows)(hn:rows.length<=2^40) :
 a00 prog d0c #[p.v] V λv _=>v = .tuple #[.int .i64 (P08 rows:Int),.bool (o0j rows)]:=by
 have hl:p.len=rows.length:=h.len
 refine t0b p V _ ⟨λh0 => ?_,λh0 => ?_⟩
 . have e:rows=[]:=List.length_eq_zero_iff.1 (by simp at h0; omega)
   subst e; rfl
 . have hne:0<rows.length:=by simp at h0; omega
   obtain⟨row,rest,e⟩:∃row rest,rows=row::rest:=by
    cases rows with
    | nil=>simp at hne
    | cons a l=>exact⟨a,l,rfl⟩
   obtain⟨g1,s,g2,g3⟩:=h.row (t:=(0:Int)) (by omega) (row:=row) (by subst e; rfl)
   refine⟨g1,s,g2,λb1 V1 l1 hb1 => ?_⟩
   have hld:V1.load (some (Addr.mk b1 0 none))=some (.int .i64 (s.len:Int)):=by
    have:=s09 (j:=0) hb1
    simpa [Addr.add]using this
   have hs:s.len=P08 rows:=by subst e; exact g3.len
   rw[hs]at hld
   have hE:rows.isEmpty=false:=by subst e; rfl
   refine⟨_,hld,λh1=>⟨_,hld,λh2 => ?_,λh2 => ?_⟩,λh1 => ?_⟩
   . simp only[decide_eq_true_eq]at h1 h2
     refine(T0c (h.le numC.le l1) hn ⟨some (Addr.mk b1 0 none)⟩ hld).mono λv V2 l2 hv=>⟨_,hv,?_⟩
     have e1:decide (rows.length<=32)=true:=by simp; omega
     have e2:decide (P08 rows<=32)=true:=by simp; omega
     simp only[o0j,hE,e1,e2,Bool.false_or,Bool.true_and]
   . simp only[decide_eq_false_iff_not]at h2
     have e2:decide (P08 rows<=32)=false:=by simp; omega
     simp only[o0j,hE,e2,Bool.false_or,Bool.and_false,Bool.false_and]
   . simp only[decide_eq_false_iff_not]at h1
     have e1:decide (rows.length<=32)=false:=by simp; omega
     simp only[o0j,hE,e1,Bool.false_or,Bool.false_and]
theorem U0c{V:View}{p:Sl}{rows:List (List Cq)}(h:l04 5 numC V p rows)(hn:rows.length<=2^40) :
 a00 prog n07 #[p.v] V λv _=>v = .bool (o0j rows&&decide (P08 rows=rows.length)):=by
 have hl:p.len=rows.length:=h.len
 refine W0a p V _ ((S08 h hn).mono λv V1 l1 hv=>⟨_,_,hv,λh1 => ?_,λh1 => ?_⟩)
 . rw[h1,Bool.true_and,hl]
   congr 1
   by_cases e:P08 rows=rows.length
   . simp[e]
   . simp[e]; omega
 . rw[h1,Bool.false_and]
theorem k14{V:View}{o:List Value}{row:List Cq}(h:t01 5 numC V o row):∀v∈o,Value.oneCell' v=true:=by
 induction row generalizing o with
 | nil=>rw[show o=[]from h]; simp
 | cons z zs ih =>
   obtain⟨x,o',e,hx,hp,ht⟩:=h
   subst e
   intro v hv
   rw[List.mem_append]at hv
   rcases hv with hv|hv
   . exact oneN hp v hv
   . exact ih ht v hv
theorem O0f{m V:View}{s:Sl}{row:List Cq}{o:List Value}(hC:t01 5 numC V o row)(ho:has2 m V s.a o)(hl:s.len=row.length)(ha:s.a=none->row=[])(hb:row.length<=2^30) :
 O09 prog m07 #[s.v] m V λv m' V'=>∃(r:Sl) (b:Nat),v=r.v/\RowR 5 numC m' V' r b row/\(row≠[]->m b=none)/\(∀i,i≠b\/row=[]->m' i=m i):=by
 refine b07 m s V _ ⟨trivial,λh => ?_,λh b1 V1 l1 hf hb1 => ?_⟩
 . have e:=ha (by simpa using h)
   exact⟨⟨none,0,0⟩,0,rfl,⟨by rw[e]; rfl,Nat.le_refl _,λ_=>rfl,λh=>absurd e h⟩,λh=>absurd e h,λ_ _=>rfl⟩
 . have hol:=hC.length
   refine⟨[],o,⟨Nat.le_refl _,λh=>by simp at h⟩,.inl (by intro j v hj; simp at hj),by simp,f0g l1 ho,by rw[hol,hl],k14 hC,by unfold maxLen; omega,by omega,λh1 h2=>by omega,λa1 c1 m1 ha1 => ?_⟩
   have hC1:t01 5 numC V1 o row:=hC.imp (numC.le l1)
   obtain⟨b,hr,hb2,hm,hm2⟩:=S0l hC1 rfl hl ha1
   exact⟨_,b,rfl,hr,hb2,λi hi=>by
    rcases hi with hi|hi
    . exact hm i hi
    . rw[hm2 hi]⟩
def T08(A:Nat->Nat->Cq)(w:Nat)(C:Nat->Nat->Cq):Nat->Nat->Cq:=λi k=>if k<w then A i k else C (k-w) i
theorem B0e{V:View}{p q:Sl}{n w u:Nat}{A C:Nat->Nat->Cq}(h:l04 5 numC V p (matL n w A))(hq:l04 5 numC V q (matL u n C))(hn:n<=2^20)(hw:w<=2^20)(hu:u<=2^20) :
 O09 prog t0c #[p.v,q.v] (λ_=>none:View) V λv m' V'=>∃r:Sl,v=r.v/\MatR 5 numC m' V' r n (w+u) (T08 A w C):=by
 have hl:p.len=n:=by have:=h.len; rw[a02]at this; exact this
 have hql:q.len=u:=by have:=hq.len; rw[a02]at this; exact this
 refine f0c (λ_=>none) p q V _ (λ_ x V'=>∃t:Nat,x.t15=t/\t<=n/\x.o12.length=n/\W05 5 numC x.o0 V' x.o12 t (λi=>rowL (w+u) (T08 A w C i))) (λ_ x _=>n-x.t15.toNat)
  (λc x V'=>∃t k:Nat,c.t15=t/\t<n/\x.t27=k/\k<=u/\x.o12.length=n/\W05 5 numC x.o0 V' x.o12 (t+1) (λi=>if i=t then rowL (w+k) (T08 A w C i)else rowL (w+u) (T08 A w C i))) (λ_ x _=>u-x.t27.toNat) ?_
 rw[hl]
 refine⟨⟨by omega,by omega,by omega,by omega⟩,⟨0,rfl,by omega,by simp,d0t _ _ _ _⟩,?_⟩
 rintro⟨t15,o0,o12⟩ V1 l1 ⟨t,ht,htn,hlen,hR⟩
 dsimp only at ht hlen hR ⊢
 subst ht
 refine⟨λhlt => ?_,λhge => ?_⟩
 . simp only[decide_eq_true_eq]at hlt
   have hk:t<n:=by omega
   obtain⟨g1,s,g2,g3⟩:=(h.le numC.le l1).row (t:=(t:Int)) (by omega) (row:=rowL w (A t)) (by rw[Int.toNat_natCast]; exact k09 hk A)
   rw[hl]at g1
   obtain⟨o,ho,hC⟩:=g3.cells
   refine⟨g1,s,.inr g2,?_⟩
   refine(O0f hC (.inr ho) g3.len (λe => ?_) (by rw[m01]; omega)).mono λv m1 V2 l2 _ ⟨r,b,hv,hr,hb,hm⟩=>⟨r,hv,⟨by omega,by omega⟩,by rw[hlen,Int.toNat_natCast]; omega,?_,?_⟩
   . by_cases e2:rowL w (A t)=[]
     . exact e2
     . have:=g3.some e2; rw[e]at this; simp at this
   . refine⟨t,0,rfl,hk,rfl,by omega,by simp[hlen],?_⟩
     have:=(hR.le numC.le l2).push (by omega) hr hb hm
     have e1:(0+Int.toNat (t:Int)*1)=t:=by omega
     rw[e1]
     refine this.congr λi hi => ?_
     by_cases e:i=t
     . subst e
       simp only[if_true,Nat.add_zero]
       exact q06 λk hk=>by simp[T08,hk]
     . simp[e]
   . rintro⟨t27,o0',o12'⟩ V3 l3 ⟨t',k,ht',htn',hk27,hku,hlen',hR'⟩
     dsimp only at ht' hk27 hlen' hR' ⊢
     have:t'=t:=by omega
     subst this
     subst hk27
     rw[hql]
     refine⟨λhlt2 => ?_,λhge2 => ?_⟩
     . simp only[decide_eq_true_eq]at hlt2
       have hku2:k<u:=by omega
       have lq:=View.le_trans l1 (View.le_trans l2 l3)
       obtain⟨q1,s2,q2,q3⟩:=(hq.le numC.le lq).row (t:=(k:Int)) (by omega) (row:=rowL n (C k)) (by rw[Int.toNat_natCast]; exact k09 hku2 C)
       rw[hql]at q1
       obtain⟨s3,e3,r1,r2,r3,⟨o3,r4,r5,r6⟩,r7⟩:=hR'.row (i:=t') (by omega)
       obtain⟨c1,x,hx,hxl,hh,hs⟩:=k00.get q3 (t:=(t':Int)) (by omega) (z:=C k t') (by rw[Int.toNat_natCast]; exact O06 hk _)
       obtain⟨y,ey,hy⟩:=elN hx
       subst ey
       simp only[if_true]at r1 r6
       rw[m01]at r1
       refine⟨q1,s2,.inr q2,⟨by omega,by omega⟩,s3,by rw[Int.toNat_natCast,Nat.mul_one,Nat.zero_add]; exact e3,c1,y,.inr hh,hs,λb1 V4 l4 hf4 hb4 => ?_⟩
       have hnew:V4.has (some (Addr.mk b1 0 none)) y.val.cells.toList:=by
        refine Q04 (cs:=y.val.cells.toList) (j:=0) hb4 (λi v hv=>by rw[Nat.zero_add]; exact hv) rfl
       refine⟨o3,_,⟨r2,r3⟩,f0g l4 r4,r5,.inr hnew,by rw[hxl],oneN (numC.le l4 _ _ hx),by unfold maxLen; omega,by omega,λ_ h2=>r7 1 (by omega) h2,λa1 c1 m2 ha=>⟨⟨by omega,by omega⟩,by rw[hlen',Int.toNat_natCast]; omega,?_⟩⟩
       have:=(hR'.le numC.le l4).app (i:=t') (by omega) e3 hxl (numC.le l4 _ _ hx) (o':=o3) (by simp only[if_true]; exact r6.imp (numC.le l4)) ha
       rw[i64w (by omega) (by omega)]
       refine⟨⟨t',k+1,rfl,htn',by omega,by omega,by simp[hlen'],?_⟩,by omega⟩
       have e1:(0+Int.toNat (t':Int)*1)=t':=by omega
       rw[e1]
       refine this.congr λi hi => ?_
       by_cases e:i=t'
       . subst e
         simp only[if_true]
         rw[show C k i=T08 A w C i (w+k)by unfold T08; rw[if_neg (by omega),Nat.add_sub_cancel_left],x0f]; rfl
       . simp[e]
     . simp only[decide_eq_false_iff_not]at hge2
       have e:k=u:=by omega
       subst e
       rw[i64w (by omega) (by omega)]
       refine⟨⟨t'+1,by omega,by omega,hlen',hR'.congr λi hi => ?_⟩,by omega⟩
       by_cases e:i=t'<;>simp[e]
 . simp only[decide_eq_false_iff_not]at hge
   intro b3 hb3 hb4
   have e:t=n:=by omega
   subst e
   rw[Int.toNat_natCast]
   exact⟨_,rfl,hR.mat hlen hb3⟩
theorem j0c{m V:View}{p:Sl}{n w:Nat}{A:Nat->Nat->Cq}(Q:Nat->Cq->Prop)(h:MatR 5 numC m V p n w A)(hn:n<=w)(hw:w<=2^20)
 (q1:∀c x,c<=n->Q c x->okN x) (q2:∀c x y z u,Q c x->Q c y->Q c z->Q c u->Q (c+1) (numO.sub x (numO.mul (numO.div y z) u))) (q3:∀c x,Q c x->Q (c+1) x) (hA:∀i j,i<n->j<w->Q 0 (A i j)) :
 O09 prog L0a #[p.v] m V λv m' V'=>v = .tuple #[.int .i64 ((elim numO n w A).2.1:Nat),.int .i64 (match (elim numO n w A).2.2 with|none => -1|some c=>(c:Int))]/\MatR 5 numC m' V' p n w (elim numO n w A).1:=by
 have hl:=h.len
 refine t0a m p V _
  (λ_ x V'=>∃(c s:Nat) (B:Nat->Nat->Cq),x.t13=c/\x.t4=s/\c<=n/\s<=c/\MatR 5 numC x.o0 V' p n w B/\B08 numO n w (n-c) c B s=elim numO n w A/\∀i j,i<n->j<w->Q c (B i j))
  (λ_ x _=>n-x.t13.toNat)
  (λc x V'=>∃(k s:Nat) (B:Nat->Nat->Cq),c.t13=k/\c.t4=s/\k<n/\s<=k/\MatR 5 numC c.o0 V' p n w B/\B08 numO n w (n-k) k B s=elim numO n w A/\(∀i j,i<n->j<w->Q k (B i j))/\x.t6=(pivF numO B k n:Nat))
  (λc x V'=>∃(k s:Nat) (B:Nat->Nat->Cq) (t:Nat),c.t13=k/\c.t4=s/\k<n/\s<=k/\MatR 5 numC c.o0 V' p n w B/\B08 numO n w (n-k) k B s=elim numO n w A/\(∀i j,i<n->j<w->Q k (B i j))/\x.t6=t/\k<=t/\t<=n/\∀q,k<=q->q<t->numO.clr (B q k)=false)
  (λ_ x _=>n-x.t6.toNat)
  (λc x V'=>∃(k s:Nat) (B:Nat->Nat->Cq),c.t13=k/\x.t4=s/\k<n/\s<=k+1/\MatR 5 numC x.o0 V' p n w B/\B08 numO n w (n-(k+1)) (k+1) (colF numO w B k n) s=elim numO n w A/\(∀i j,i<n->j<w->Q k (B i j))/\numO.clr (B k k)=true)
  (λc x V'=>∃(k s:Nat) (B:Nat->Nat->Cq) (R:Nat),c.t13=k/\c.t4=s/\k<n/\s<=k+1/\x.t7=R/\k<R/\R<=n/\MatR 5 numC x.o0 V' p n w (colF numO w B k R)/\B08 numO n w (n-(k+1)) (k+1) (colF numO w B k n) s=elim numO n w A/\(∀i j,i<n->j<w->Q k (B i j))/\numO.clr (B k k)=true)
  (λ_ x _=>n-x.t7.toNat)
  (λc x V'=>∃(k s:Nat) (B:Nat->Nat->Cq) (R K:Nat),c.t13=k/\c.t4=s/\k<n/\s<=k+1/\c.t7=R/\k<R/\R<n/\x.t10=K/\k<K/\K<=w/\atN V' c.o8 (numO.div (B R k) (B k k)) /\
    MatR 5 numC x.o0 V' p n w (rowF numO (colF numO w B k R) k R (numO.div (B R k) (B k k)) K)/\B08 numO n w (n-(k+1)) (k+1) (colF numO w B k n) s=elim numO n w A/\(∀i j,i<n->j<w->Q k (B i j))/\numO.clr (B k k)=true)
  (λ_ x _=>w-x.t10.toNat) ?_
 rw[hl]
 refine⟨⟨0,0,A,rfl,rfl,by omega,by omega,h,by rw[Nat.sub_zero]; rfl,hA⟩,?_⟩
 rintro⟨t4,t13,o0⟩ V1 l1 ⟨c,s,B,e13,e4,hc,hs,hM,hE,hQ⟩
 dsimp only at e13 e4 hM ⊢
 subst e13; subst e4
 refine⟨λhlt=>⟨⟨⟨c,s,B,c,rfl,rfl,by simp at hlt; omega,hs,hM,hE,hQ,rfl,by omega,hc,λq h1 h2=>by omega⟩,?_⟩,?_⟩,λhge => ?_⟩
 ·
   rintro⟨t6⟩ V3 l3 ⟨k,s',B',t,e13,e4,hk,hs',hM',hE',hQ',e6,h1,h2,h3⟩
   dsimp only at e13 e4 e6 hM' ⊢
   obtain rfl:c=k:=by omega
   obtain rfl:s=s':=by omega
   subst e6
   refine⟨λhlt2 => ?_,λhge2 => ?_⟩
   . simp only[decide_eq_true_eq]at hlt2
     have ht:t<n:=by omega
     obtain⟨g1,sl,g2,g3,g4,g5,g6,g7,g8⟩:=hM'.row ht
     obtain⟨x,hx,hxl,hh,hsm⟩:=g7 c (by omega)
     obtain⟨y,ey,hy⟩:=elN hx
     subst ey
     refine⟨⟨by omega,by omega,g1⟩,sl,.inl (by rw[Int.toNat_natCast]; exact g2),⟨by omega,by omega,g5 (by omega)⟩,y,by rw[Int.toNat_natCast]; exact hh,by rw[Int.toNat_natCast]; exact hsm,?_⟩
     refine(K13 hy (q1 c _ (by omega) (hQ' t c ht (by omega)))).mono λv V4 l4 hv=>⟨_,hv,λhb => ?_,λhb => ?_⟩
     . rw[i64w (by omega) (by omega)]
       refine⟨⟨c,s,B',t+1,rfl,rfl,hk,hs',hM'.le numC.le l4,hE',hQ',by omega,by omega,by omega,λq hq1 hq2 => ?_⟩,by omega⟩
       by_cases e:q=t
       . subst e; simpa using hb
       . exact h3 q hq1 (by omega)
     . refine⟨c,s,B',rfl,rfl,hk,hs',hM'.le numC.le l4,hE',hQ',?_⟩
       rw[O0x numO B' h1 h2 h3 (λ_=>by simpa using hb)]
   . simp only[decide_eq_false_iff_not]at hge2
     have e:t=n:=by omega
     refine⟨c,s,B',rfl,rfl,hk,hs',hM',hE',hQ',?_⟩
     rw[O0x numO B' h1 h2 h3 (λh=>by omega)]
 ·
   rintro⟨t6⟩ V2 l2 ⟨k,s',B',e13,e4,hk,hs',hM',hE',hQ',e6⟩
   dsimp only at e13 e4 e6 hM' ⊢
   obtain rfl:c=k:=by omega
   obtain rfl:s=s':=by omega
   subst e6
   obtain⟨p1,p2,p3,p4⟩:=J0c numO B' (c:=c) (n:=n) (by omega)
   refine⟨λheq => ?_,λhne=>⟨⟨λhsw => ?_,λhns => ?_⟩,?_⟩⟩
   . have e:pivF numO B' c n=n:=by simp at heq; omega
     rw[<-hE',X0v numO n w hk B' s e]
     exact⟨rfl,hM'⟩
   . have hpn:pivF numO B' c n<n:=by simp at hne; omega
     have hpc:pivF numO B' c n≠c:=by simp at hsw; omega
     obtain⟨g1,sc,g2,_⟩:=hM'.row hk
     obtain⟨_,sp,k2,_⟩:=hM'.row hpn
     obtain⟨b1,c1,l1',u1,u2,u3,b2,c2,l2',u4,u5,u6,u7⟩:=hM'.swap (by omega) hk hpn g2 k2
     refine⟨⟨by omega,by omega,g1⟩,sc,.inl (by rw[Int.toNat_natCast]; exact g2),⟨by omega,by omega,g1⟩,sp,.inl (by rw[Int.toNat_natCast]; exact k2),⟨by omega,by omega,g1⟩,b1,c1,l1',by rw[Int.toNat_natCast]; exact u1,u2,u3,⟨by omega,by omega,g1⟩,b2,c2,l2',by rw[Int.toNat_natCast]; exact u4,u5,u6,?_⟩
     rw[B0t numO n w hk B' s (by omega),if_neg hpc]at hE'
     have ep:Y0a B' c (pivF numO B' c n)=C0n B' c (pivF numO B' c n):=by unfold Y0a; rw[if_neg hpc]
     rw[i64w (by omega) (by omega)]
     refine⟨c,s+1,C0n B' c (pivF numO B' c n),rfl,by omega,hk,by omega,u7,by rw[<-ep]; exact hE',λi j hi hj => ?_,?_⟩
     . unfold C0n
       split
       . exact hQ' _ j hpn hj
       . split
         . exact hQ' _ j hk hj
         . exact hQ' i j hi hj
     . simp only[C0n,if_true]; exact p4 hpn
   . have hpc:pivF numO B' c n=c:=by simp at hns; omega
     have hpn:pivF numO B' c n<n:=by omega
     rw[B0t numO n w hk B' s (by omega),if_pos hpc]at hE'
     have ep:Y0a B' c (pivF numO B' c n)=B':=by unfold Y0a; rw[if_pos hpc]
     rw[ep]at hE'
     exact⟨c,s,B',rfl,rfl,hk,by omega,hM',hE',hQ',by have:=p4 hpn; rw[hpc]at this; exact this⟩
   ·
     clear p1 p2 p3 p4 hE' hQ' hM'
     rintro⟨t4',o0'⟩ V5 l5 ⟨k,s2,B2,e13',e4',hk2,hs2,hM2,hE2,hQ2,hcl⟩
     dsimp only at e13' e4' hM2 ⊢
     obtain rfl:c=k:=by omega
     subst e4'
     refine⟨⟨c,s2,B2,c+1,rfl,rfl,hk,hs2,by rw[i64w (by omega) (by omega)]; omega,by omega,by omega,by rw[U0v]; exact hM2,hE2,hQ2,hcl⟩,?_⟩
     clear hM2 hE2 hQ2 hcl
     rintro⟨t7,o0''⟩ V6 l6 ⟨k,s3,B3,R,f13,f4,hk3,hs3,f7,hkR,hRn,hM3,hE3,hQ3,hcl3⟩
     dsimp only at f13 f4 f7 hM3 ⊢
     obtain rfl:c=k:=by omega
     obtain rfl:s2=s3:=by omega
     subst f7
     refine⟨λhlt2 => ?_,λhge2 => ?_⟩
     . simp only[decide_eq_true_eq]at hlt2
       have hR:R<n:=by omega
       obtain⟨g1,sr,g2,g3,g4,g5,g6,g7,g8⟩:=hM3.row hR
       obtain⟨_,sc,k2,k3,k4,k5,k6,k7,k8⟩:=hM3.row hk
       obtain⟨x,hx,hxl,hh,hsm⟩:=g7 c (by omega)
       obtain⟨x',hx',hxl',hh',hsm'⟩:=k7 c (by omega)
       rw[A0t]at hx
       rw[z0t]at hx'
       obtain⟨y,ey,hy⟩:=elN hx
       obtain⟨y',ey',hy'⟩:=elN hx'
       subst ey; subst ey'
       refine⟨⟨by omega,by omega,g1⟩,sr,.inl (by rw[Int.toNat_natCast]; exact g2),⟨by omega,by omega,g5 (by omega)⟩,y,by rw[Int.toNat_natCast]; exact hh,by rw[Int.toNat_natCast]; exact hsm,
        ⟨by omega,by omega,g1⟩,sc,.inl (by rw[Int.toNat_natCast]; exact k2),⟨by omega,by omega,k5 (by omega)⟩,y',by rw[Int.toNat_natCast]; exact hh',by rw[Int.toNat_natCast]; exact hsm',?_⟩
       have qR:=hQ3 R c hR (by omega)
       have qc:=hQ3 c c hk (by omega)
       refine(divN hy hy' (q1 c _ (by omega) qR) (q1 c _ (by omega) qc) hcl3).mono λv V7 l7 ⟨r2,hv,hr2⟩=>⟨r2,0,hv,⟨c,s2,B3,R,c+1,rfl,rfl,hk,hs3,rfl,hkR,hR,by rw[i64w (by omega) (by omega)]; omega,by omega,by omega,hr2,?_,hE3,hQ3,hcl3⟩,?_⟩
       . rw[W0v]; exact hM3.le numC.le l7
       . clear hM3 g1 g2 g3 g4 g5 g6 g7 g8 k2 k3 k4 k5 k6 k7 k8 hh hsm hh' hsm' hx hx' hy hy'
         rintro⟨t10,o0'''⟩ V8 l8 ⟨k,s4,B4,R',K,d13,d4,hk4,hs4,d7,hkR4,hR4,d10,hkK,hKw,hf,hM4,hE4,hQ4,hcl4⟩
         dsimp only at d13 d4 d7 d10 hf hM4 ⊢
         obtain rfl:c=k:=by omega
         obtain rfl:s2=s4:=by omega
         obtain rfl:R=R':=by omega
         subst d10
         obtain⟨g1,sr,g2,g3,g4,g5,g6,g7,g8⟩:=hM4.row hR
         refine⟨⟨by omega,by omega,g1⟩,sr,.inl (by rw[Int.toNat_natCast]; exact g2),λhlt3 => ?_,λhge3 => ?_⟩
         . simp only[decide_eq_true_eq]at hlt3
           have hK:K<w:=by omega
           obtain⟨_,sc,k2,k3,k4,k5,k6,k7,k8⟩:=hM4.row hk
           obtain⟨x,hx,hxl,hh,hsm⟩:=g7 K hK
           obtain⟨x',hx',hxl',hh',hsm'⟩:=k7 K hK
           rw[w13,A0t]at hx
           rw[u13 numO _ _ _ (by omega),z0t]at hx'
           obtain⟨y,ey,hy⟩:=elN hx
           obtain⟨y',ey',hy'⟩:=elN hx'
           subst ey; subst ey'
           have qR:=hQ4 R c hR (by omega)
           have qc:=hQ4 c c hk (by omega)
           have qRK:=hQ4 R K hR hK
           have qcK:=hQ4 c K hk hK
           refine⟨⟨by omega,by omega,g1⟩,sr,.inl (by rw[Int.toNat_natCast]; exact g2),⟨by omega,by omega,g1⟩,sr,.inl (by rw[Int.toNat_natCast]; exact g2),⟨by omega,by omega,g5 (by omega)⟩,y,by rw[Int.toNat_natCast]; exact hh,by rw[Int.toNat_natCast]; exact hsm,
            ⟨by omega,by omega,g1⟩,sc,.inl (by rw[Int.toNat_natCast]; exact k2),⟨by omega,by omega,k5 (by omega)⟩,y',by rw[Int.toNat_natCast]; exact hh',by rw[Int.toNat_natCast]; exact hsm',?_⟩
           refine(i14 hf hy' (q1 c _ (by omega) qR) (q1 c _ (by omega) qc) (q1 c _ (by omega) qcK)).mono λv V9 l9 ⟨r4,hv,hr4⟩=>⟨r4,hv,?_⟩
           refine(j14 (atN.le l9 hy) hr4 (q1 c _ (by omega) qRK) (q1 c _ (by omega) qR) (q1 c _ (by omega) qc) (q1 c _ (by omega) qcK)).mono λv V10 l10 ⟨r5,hv,hr5⟩=>⟨r5,hv,⟨by omega,by omega,g5 (by omega)⟩,?_⟩
           obtain⟨v1,v2,b3,c3,l3,v3,v4,v5,v6⟩:=(hM4.le numC.le (View.le_trans l9 l10)).put hR hK (lenN r5) (m10 hr5) g2
           refine⟨b3,c3,l3,by rw[Int.toNat_natCast]; exact v3,v4,v5,?_⟩
           rw[i64w (by omega) (by omega)]
           refine⟨⟨c,s2,B4,R,K+1,rfl,rfl,hk,hs4,rfl,hkR,hR,by omega,by omega,by omega,atN.le (View.le_trans l9 l10) hf,?_,hE4,hQ4,hcl4⟩,by omega⟩
           have e:=P0x numO (colF numO w B4 c R) (c:=c) (R:=R) (numO.div (B4 R c) (B4 c c)) hkK
           rw[<-e,A0t,z0t]; exact v6
         . simp only[decide_eq_false_iff_not]at hge3
           have e:K=w:=by omega
           subst e
           rw[i64w (by omega) (by omega)]
           rw[H0z numO K B4 hkR]at hM4
           exact⟨⟨c,s2,B4,R+1,rfl,rfl,hk,hs4,by omega,by omega,by omega,hM4,hE4,hQ4,hcl4⟩,by omega⟩
     . simp only[decide_eq_false_iff_not]at hge2
       have e:R=n:=by omega
       subst e
       rw[i64w (by omega) (by omega)]
       refine⟨⟨c+1,s2,colF numO w B3 c R,by omega,rfl,by omega,hs3,hM3,hE3,λi j hi hj => ?_⟩,by omega⟩
       unfold colF
       split
       . exact q2 c _ _ _ _ (hQ3 i j hi hj) (hQ3 i c hi (by omega)) (hQ3 c c hk (by omega)) (hQ3 c j hk hj)
       . exact q3 c _ (hQ3 i j hi hj)
 . simp only[decide_eq_false_iff_not]at hge
   have e:c=n:=by omega
   subst e
   rw[Q0x]at hE
   rw[<-hE]
   exact⟨rfl,hM⟩
theorem p0j{n w:Nat}(A:Nat->Nat->Cq)(hn:n<=32)(hw:w<=32):o0j (matL n w A)=true/\(0<n->P08 (matL n w A)=w)/\(n=0->P08 (matL n w A)=0):=by
 have hc:0<n->P08 (matL n w A)=w:=by
  intro h
  unfold P08 matL
  obtain⟨m,rfl⟩:∃m,n=m+1:=⟨n-1,by omega⟩
  rw[List.range_succ_eq_map]
  simp[m01]
 refine⟨?_,hc,λh=>by subst h; rfl⟩
 unfold o0j
 rcases Nat.eq_zero_or_pos n with h|h
 . subst h; rfl
 . rw[hc h,a02]
   have e:((matL n w A).any λrow=>decide (row.length≠w))=false:=by
    rw[List.any_eq_false]
    intro row hrow
    unfold matL at hrow
    obtain⟨i,_,rfl⟩:=List.mem_map.1 hrow
    simp[m01]
   rw[e]
   simp[hn,hw]
theorem M13{V:View}{p:Sl}{n:Nat}{A:Nat->Nat->Cq}(h:l04 5 numC V p (matL n n A))(hn:n<=32):a00 prog n07 #[p.v] V λv _=>v = .bool true:=by
 refine(U0c h (by rw[a02]; omega)).mono λv V1 _ hv => ?_
 obtain⟨h1,h2,h3⟩:=p0j A hn hn
 rw[hv,h1,a02]
 rcases Nat.eq_zero_or_pos n with e|e
 . rw[h3 e,e]; rfl
 . rw[h2 e]; simp
structure g12 (n:Nat) (Q:Cq->Prop) (qs:Nat->Nat->Cq->Prop) (qx:Nat->Cq->Prop):Prop where
 r0:∀j x,j<n->Q x->qs j 0 x
 r1:∀j i s a x,j<n->i<j->qs j i s->Q a->qx j x->qs j (i+1) (numO.sub s (numO.mul a x))
 r2:∀j s a,j<n->qs j j s->Q a->qx (j+1) (numO.div s a)
 r3:∀j x,j<n->qx j x->qx (j+1) x
 k1:∀x,Q x->okN x
 k2:∀j i s,j<n->i<=j->qs j i s->okN s
 k3:∀j x,j<=n->qx j x->okN x
theorem P0f{V:View}{p q:Sl}{n:Nat}{A:Nat->Nat->Cq}{b:Nat->Cq}(h:l04 5 numC V p (matL n n A))(hb:k00 5 numC V q (rowL n b))(hn:n<=32)
 (Q:Nat->Cq->Prop) (q1:∀c x,c<=n->Q c x->okN x) (q2:∀c x y z u,Q c x->Q c y->Q c z->Q c u->Q (c+1) (numO.sub x (numO.mul (numO.div y z) u))) (q3:∀c x,Q c x->Q (c+1) x)
 (hA:∀i j,i<n->j<n->Q 0 (A i j)) (hB:∀i,i<n->Q 0 (b i)) (qs:Nat->Nat->Cq->Prop) (qx:Nat->Cq->Prop) (hk:g12 n (Q n) qs qx) :
 a00 prog Q08 #[p.v,q.v] V λv V'=>∃r:Sl,match (elim numO n (n+1) (T08 A n λ_ i=>b i)).2.2 with
  | none=>v = .tuple #[r.v,.int .i64 0]/\k00 5 numC V' r (rowL n (Z0a numO Cq.zero (elim numO n (n+1) (T08 A n λ_ i=>b i)).1 n n))
  | some _=>v = .tuple #[r.v,.int .i64 6]/\r=⟨none,0,0⟩:=by
 have hpl:p.len=n:=by have:=h.len; rw[a02]at this; exact this
 have hql:q.len=n:=by have:=hb.len; rw[m01]at this; exact this
 let W:=T08 A n λ_ i=>b i
 let B:=(elim numO n (n+1) W).1
 have hWQ:∀i j,i<n->j<n+1->Q 0 (W i j):=by
  intro i j hi hj
  show Q 0 (if j<n then A i j else b i)
  split
  . exact hA i j hi (by assumption)
  . exact hB i hi
 have hBQ:∀i j,i<n->j<n+1->Q n (B i j):=c0j numO Q n (n+1) q2 q3 n 0 W 0 (by omega) (by omega) hWQ
 refine z0c p q V _ (λ_ _ _=>True)
  (λ_ x V'=>∃j:Nat,x.t10=(n:Int)-1-j/\j<=n/\t01 5 numC V' x.o37 (rowL n (Z0a numO Cq.zero B n j))/\∀i,n-j<=i->i<n->qx j (Z0a numO Cq.zero B n j i))
  (λ_ x _=>(x.t10+1).toNat)
  (λc x V'=>∃j i:Nat,c.t10=(n:Int)-1-j/\j<n/\x.t12=(n:Int)-j+i/\i<=j/\t01 5 numC V' x.o37 (rowL n (Z0a numO Cq.zero B n j))/\(∀i,n-j<=i->i<n->qx j (Z0a numO Cq.zero B n j i)) /\
    atN V' x.o11 (N0x numO B (Z0a numO Cq.zero B n j) (n-(j+1)) n i)/\qs j i (N0x numO B (Z0a numO Cq.zero B n j) (n-(j+1)) n i))
  (λ_ x _=>n-x.t12.toNat) ?_
 rw[hpl,hql]
 refine⟨(M13 h hn).mono λv V2 l2 hv=>⟨true,hv,λhf=>absurd hf (by simp),λ_=>⟨λhf=>absurd hf (by simp),λ_=>trivial⟩⟩,?_⟩
 rintro⟨u⟩ V1 l1 -
 intro b3 V5 l5 _ hb3
 have hmore:l04 5 numC V5 ⟨some (Addr.mk b3 0 none),1,1⟩ (matL 1 n λ_ i=>b i):=by
  have hb5:k00 5 numC V5 q (rowL n b):=hb.le (numC.le (View.le_trans l1 l5)) (View.le_trans l1 l5)
  refine k00.of_block (o:=[q.v]) (o':=[]) (b:=b3) (λ_=>by simpa using hb3) ?_ (by rw[a02]) (Nat.le_refl _) (λ_=>rfl)
  exact⟨[q.v],[],rfl,rfl,⟨q,rfl,hb5⟩,rfl⟩
 refine(B0e (h.le numC.le (View.le_trans l1 l5)) hmore (by omega) (by omega) (by omega)).mono λv m1 V6 l6 _ ⟨r2,hv,hM⟩=>⟨r2,hv,?_⟩
 refine(j0c Q hM (by omega) (by omega) q1 q2 q3 hWQ).mono λv m2 V7 l7 _ ⟨hv,hM2⟩=>⟨_,_,hv,by decide,λV8 l8 hpub => ?_⟩
 have hRB:l04 5 numC V8 r2 (matL n (n+1) B):=hM2.known (numC.le l8) hpub
 have hr2:r2.len=n:=by have:=hRB.len; rw[a02]at this; exact this
 cases hstop:(elim numO n (n+1) W).2.2 with
 | some c =>
   exact⟨λ_=>⟨⟨none,0,0⟩,rfl,rfl⟩,λhf=>absurd hf (by simp)⟩
 | none =>
   have hdiag:=z0g numO n (n+1) n 0 W 0 (by omega) (λi hi=>absurd hi (by omega)) hstop
   refine⟨λhf=>absurd hf (by simp),λ_ => ?_⟩
   refine⟨⟨by omega,by omega,by omega,by omega⟩,⟨0,by rw[i64w (by omega) (by omega)]; show(n:Int)-1=_; omega,by omega,?_,λi h1 h2=>by omega⟩,?_⟩
   . have:=t01.replicate (sz:=5) (P:=numC) (V:=V8) rfl (zeroN V8) n
     rw[Int.toNat_natCast]
     have e:rowL n (Z0a numO Cq.zero B n 0)=List.replicate n Cq.zero:=x0g n Cq.zero
     rw[e]; exact this
   rintro⟨t10,o37⟩ V9 l9 ⟨j,e10,hj,hC,hx⟩
   dsimp only at e10 hC ⊢
   refine⟨λhge => ?_,λhlt => ?_⟩
   . have hjn:j<n:=by simp at hge; omega
     have ec:t10.toNat=n-(j+1):=by omega
     obtain⟨g1,s1,g2,g3⟩:=(hRB.le numC.le l9).row (t:=t10) (by omega) (row:=rowL (n+1) (B (n-(j+1)))) (by rw[ec]; exact k09 (by omega) B)
     obtain⟨c1,x,hxx,hxl,hh,hs⟩:=k00.get g3 (t:=(n:Int)) (by omega) (z:=B (n-(j+1)) n) (by rw[Int.toNat_natCast]; exact O06 (by omega) _)
     obtain⟨y,ey,hy⟩:=elN hxx
     subst ey
     refine⟨g1,s1,g2,c1,y,hh,hs,⟨j,0,e10,hjn,by rw[i64w (by omega) (by omega)]; omega,by omega,hC,hx,hy,hk.r0 j _ hjn (hBQ _ _ (by omega) (by omega))⟩,?_⟩
     clear hh hs hxx hxl g2 g3 c1
     rintro⟨t12,o11,o37'⟩ V10 l10 ⟨j',i,e10',hj',e12,hi,hC',hx',hS,hqS⟩
     dsimp only at e10' e12 hC' hS ⊢
     obtain rfl:j=j':=by omega
     obtain⟨g1,s1,g2,g3⟩:=(hRB.le numC.le (View.le_trans l9 l10)).row (t:=t10) (by omega) (row:=rowL (n+1) (B (n-(j+1)))) (by rw[ec]; exact k09 (by omega) B)
     refine⟨λhlt2 => ?_,λhge2 => ?_⟩
     . have hij:i<j:=by simp at hlt2; omega
       have ek:t12.toNat=n-(j+1)+1+i:=by omega
       obtain⟨c1,x,hxx,hxl,hh,hs⟩:=k00.get g3 (t:=t12) (by omega) (z:=B (n-(j+1)) (n-(j+1)+1+i)) (by rw[ek]; exact O06 (by omega) _)
       obtain⟨y1,ey,hy1⟩:=elN hxx
       subst ey
       obtain⟨x',hx2,hxl2,hg⟩:=hC'.at (i:=t12.toNat) (z:=Z0a numO Cq.zero B n j (n-(j+1)+1+i)) (by rw[ek]; exact O06 (by omega) _)
       obtain⟨y2,ey2,hy2⟩:=elN hx2
       subst ey2
       have qa:=hBQ (n-(j+1)) (n-(j+1)+1+i) (by omega) (by omega)
       have qX:=hx' (n-(j+1)+1+i) (by omega) (by omega)
       have okx:=hk.k3 j _ (by omega) qX
       refine⟨g1,s1,g2,c1,y1,hh,hs,⟨by omega,by omega⟩,y2,hg,?_⟩
       refine(mulN hy1 hy2 (hk.k1 _ qa) okx).mono λv V11 l11 ⟨r5,hv,h5⟩=>⟨r5,hv,?_⟩
       refine(subN (atN.le l11 hS) h5 (hk.k2 j i _ hjn (by omega) hqS) (hk.k1 _ qa) okx).mono λv V12 l12 ⟨r6,hv,h6⟩=>⟨r6,hv,?_⟩
       rw[i64w (by omega) (by omega)]
       exact⟨⟨j,i+1,e10,hjn,by omega,by omega,hC'.imp (numC.le (View.le_trans l11 l12)),hx',h6,hk.r1 j i _ _ _ hjn hij hqS qa qX⟩,by omega⟩
     . have hij:i=j:=by simp at hge2; omega
       subst hij
       obtain⟨c1,x,hxx,hxl,hh,hs⟩:=k00.get g3 (t:=t10) (by omega) (z:=B (n-(i+1)) (n-(i+1))) (by rw[ec]; exact O06 (by omega) _)
       obtain⟨y1,ey,hy1⟩:=elN hxx
       subst ey
       have qa:=hBQ (n-(i+1)) (n-(i+1)) (by omega) (by omega)
       refine⟨g1,s1,g2,c1,y1,hh,hs,?_⟩
       refine(divN hS hy1 (hk.k2 i i _ hjn (Nat.le_refl _) hqS) (hk.k1 _ qa) (hdiag _ (by omega))).mono λv V13 l13 ⟨r7,hv,h7⟩=>⟨r7,0,hv,⟨by omega,by omega⟩,?_,?_⟩
       . rw[hC'.length,m01,ec]
         have e2:(n-(i+1))*5+5=(n-(i+1)+1)*5:=by rw[Nat.add_mul,Nat.one_mul]
         rw[Nat.zero_add,e2]
         exact Nat.mul_le_mul_right _ (by omega)
       . rw[i64w (by omega) (by omega)]
         have hset:=(hC'.imp (numC.le l13)).set0 (i:=n-(i+1)) (by rw[m01]; omega) (lenN r7) (m10 h7)
         rw[W0h]at hset
         refine⟨⟨i+1,by omega,by omega,by rw[ec]; exact hset,λk h1 h2 => ?_⟩,by omega⟩
         simp only[Z0a]
         by_cases e:k=n-(i+1)
         . rw[if_pos e]; exact hk.r2 i _ _ hjn hqS qa
         . rw[if_neg e]; exact hk.r3 i _ hjn (hx' k (by omega) h2)
   . have hjn:j=n:=by simp at hlt; omega
     subst hjn
     intro b5 V14 l14 hb5
     rw[Int.toNat_natCast]
     refine⟨⟨some (Addr.mk b5 0 none),j,j⟩,rfl,?_⟩
     exact L06 hb5 (hC.imp (numC.le l14)) (by rw[m01])
def Xb(T:Nat):Nat->Nat
 | 0=>0
 | j+1=>max (Xb T j) (4*(T+j*(T+Xb T j+2))+8)
theorem i12{T:Nat}:∀ {j n:Nat},j<=n->Xb T j<=Xb T n
 | j, 0, h => by have : j = 0 := by omega
                 subst this; exact Nat.le_refl _
 | j,n+1,h=>by
   by_cases e:j=n+1
   . subst e; exact Nat.le_refl _
   . exact Nat.le_trans (i12 (j:=j) (n:=n) (by omega)) (Nat.le_max_left _ _)
theorem n10{n T:Nat}(h:T+n*(T+Xb T n+2)<=2^36)(hX:Xb T n<=2^36) :
 g12 n (λz=>z.sz<=T) (λj i s=>s.sz<=T+i*(T+Xb T j+2)) (λj x=>x.sz<=Xb T j):=by
 refine⟨λj x _ hx=>by rw[Nat.zero_mul]; exact hx,λj i s a x hj hi hs ha hx => ?_,λj s a hj hs ha => ?_,λj x _ hx=>Nat.le_trans hx (Nat.le_max_left _ _),λx hx => ?_,λj i s hj hi hs => ?_,λj x hj hx => ?_⟩
 . have h1:=Z03 a x
   have h2:=N09 s (a*x)
   show(s-a*x).sz<=_
   rw[Nat.add_mul,Nat.one_mul]; omega
 . have hd:(s.div a).sz<=4*(T+j*(T+Xb T j+2))+8:=I0l hs (by
     have:0<=j*(T+Xb T j+2):=Nat.zero_le _
     omega)
   exact Nat.le_trans hd (Nat.le_max_right _ _)
 . unfold okN; omega
 . have h1:=i12 (T:=T) (j:=j) (n:=n) (by omega)
   have h2:i*(T+Xb T j+2)<=n*(T+Xb T n+2):=Nat.mul_le_mul (by omega) (by omega)
   unfold okN; omega
 . have h1:=i12 (T:=T) (j:=j) (n:=n) hj
   unfold okN; omega
def qN(S:Nat)(c:Nat)(z:Cq):Prop:=z.sz+2<=(S+2)*6^c
theorem qN_2{S:Nat}(c:Nat)(x y z u:Cq)(hx:qN S c x)(hy:qN S c y)(hz:qN S c z)(hu:qN S c u):qN S (c+1) (numO.sub x (numO.mul (numO.div y z) u)):=by
 unfold qN at *
 rw[Nat.pow_succ]
 have e:(S+2)*(6^c*6)=((S+2)*6^c)*6:=by rw[Nat.mul_assoc]
 rw[e]
 generalize (S+2)*6^c=T at *
 have h1:(y.div z).sz<=4*(T-2)+8:=I0l (by omega) (by omega)
 have h2:=Z03 (y.div z) u
 have h3:=N09 x (y.div z*u)
 show(x-y.div z*u).sz+2<=_
 omega
theorem qN_3{S:Nat}(c:Nat)(x:Cq)(hx:qN S c x):qN S (c+1) x:=by
 unfold qN at *
 rw[Nat.pow_succ]
 have e:(S+2)*(6^c*6)=((S+2)*6^c)*6:=by rw[Nat.mul_assoc]
 omega
theorem qN_1{S n:Nat}(h:(S+2)*6^n<=2^36)(c:Nat)(x:Cq)(hc:c<=n)(hx:qN S c x):okN x:=by
 unfold qN at hx
 have:(S+2)*6^c<=(S+2)*6^n:=Nat.mul_le_mul_left _ (Nat.pow_le_pow_right (by omega) hc)
 unfold okN; omega
def augN(n:Nat)(A:Nat->Nat->Cq)(b:Nat->Cq):Nat->Nat->Cq:=T08 A n λ_ i=>b i
theorem Q0s{V:View}{p q:Sl}{n:Nat}{A:Nat->Nat->Cq}{b:Nat->Cq}(S:Nat)(h:l04 5 numC V p (matL n n A))(hb:X0a V q (rowL n b))(hn:n<=32)(hA:∀i j,i<n->j<n->(A i j).sz<=S)(hB:∀i,i<n->(b i).sz<=S)
 (hS:(S+2)*6^n+n*((S+2)*6^n+Xb ((S+2)*6^n) n+2)<=2^36) (hX:Xb ((S+2)*6^n) n<=2^36) :
 a00 prog Q08 #[p.v,q.v] V λv V'=>∃r:Sl,match (elim numO n (n+1) (augN n A b)).2.2 with
  | none=>v = .tuple #[r.v,.int .i64 0]/\X0a V' r (rowL n (Z0a numO Cq.zero (elim numO n (n+1) (augN n A b)).1 n n))/\∀i,i<n->(Z0a numO Cq.zero (elim numO n (n+1) (augN n A b)).1 n n i).sz<=Xb ((S+2)*6^n) n
  | some _=>v = .tuple #[r.v,.int .i64 6]/\r=⟨none,0,0⟩:=by
 have q0:∀ {z:Cq},z.sz<=S->qN S 0 z:=λhz=>by unfold qN; rw[Nat.pow_zero]; omega
 have qT:∀ {z:Cq},qN S n z->z.sz<=(S+2)*6^n:=λhz=>by unfold qN at hz; omega
 have hk:=n10 (T:=(S+2)*6^n) hS hX
 have hk':g12 n (qN S n) (λj i s=>s.sz<=(S+2)*6^n+i*((S+2)*6^n+Xb ((S+2)*6^n) j+2)) (λj x=>x.sz<=Xb ((S+2)*6^n) j) :=
  ⟨λj x hj hx=>hk.r0 j x hj (qT hx),λj i s a x hj hi hs ha hx=>hk.r1 j i s a x hj hi hs (qT ha) hx,λj s a hj hs ha=>hk.r2 j s a hj hs (qT ha),hk.r3,λx hx=>hk.k1 x (qT hx),hk.k2,hk.k3⟩
 have hok:∀c x,c<=n->qN S c x->okN x:=qN_1 (by omega)
 refine(P0f h hb hn (qN S) hok qN_2 qN_3 (λi j hi hj=>q0 (hA i j hi hj)) (λi hi=>q0 (hB i hi)) _ _ hk').mono λv V' _ ⟨r,hr⟩=>⟨r,?_⟩
 unfold augN
 cases e:(elim numO n (n+1) (T08 A n λ_ i=>b i)).2.2 with
 | some c=>rw[e]at hr; exact hr
 | none =>
   rw[e]at hr
   refine⟨hr.1,hr.2,λi hi => ?_⟩
   have hBQ:∀i j,i<n->j<n+1->qN S n ((elim numO n (n+1) (T08 A n λ_ i=>b i)).1 i j):=c0j numO (qN S) n (n+1) qN_2 qN_3 n 0 _ 0 (by omega) (by omega) λi j hi hj=>by
    show qN S 0 (if j<n then A i j else b i)
    split
    . exact q0 (hA i j hi (by assumption))
    . exact q0 (hB i hi)
   have key:∀j,j<=n->∀i,n-j<=i->i<n->(Z0a numO Cq.zero (elim numO n (n+1) (T08 A n λ_ i=>b i)).1 n j i).sz<=Xb ((S+2)*6^n) j:=by
    intro j
    induction j with
    | zero=>intro _ i h1 h2; omega
    | succ j ih =>
      intro hj i h1 h2
      have ih:=ih (by omega)
      simp only[Z0a]
      by_cases e:i=n-(j+1)
      . rw[if_pos e]
        refine hk'.r2 j _ _ (by omega) ?_ (hBQ _ _ (by omega) (by omega))
        have bs:∀k,k<=j->(N0x numO (elim numO n (n+1) (T08 A n λ_ i=>b i)).1 (Z0a numO Cq.zero (elim numO n (n+1) (T08 A n λ_ i=>b i)).1 n j) (n-(j+1)) n k).sz<=(S+2)*6^n+k*((S+2)*6^n+Xb ((S+2)*6^n) j+2):=by
         intro k
         induction k with
         | zero=>intro _; exact hk'.r0 j _ (by omega) (hBQ _ _ (by omega) (by omega))
         | succ k ihk=>intro hkj; exact hk'.r1 j k _ _ _ (by omega) (by omega) (ihk (by omega)) (hBQ _ _ (by omega) (by omega)) (ih _ (by omega) (by omega))
        exact bs j (Nat.le_refl j)
      . rw[if_neg e]; exact hk'.r3 j _ (by omega) (ih i (by omega) h2)
   exact key n (Nat.le_refl n) i (by omega) hi
def adjQ(A:Nat->Nat->Cq):Nat->Nat->Cq:=λk i=>(A i k).conj
theorem z0q{V:View}{p:Sl}{n w:Nat}{A:Nat->Nat->Cq}(h:l04 5 numC V p (matL n w A))(h0:0<n)(hn:n<=32)(hw:w<=32) :
 a00 prog c0c #[p.v] V λv V'=>∃r:Sl,v = .tuple #[r.v,.int .i64 0]/\l04 5 numC V' r (matL w n (adjQ A)):=by
 have hl:p.len=n:=by have:=h.len; rw[a02]at this; exact this
 obtain⟨e1,e2,_⟩:=p0j A hn hw
 have e2:=e2 h0
 refine u0b p V _
  (λ_ x V'=>∃k:Nat,x.t20=k/\k<=w/\x.o17.length=w/\W05 5 numC x.o0 V' x.o17 w (λi=>if i<k then rowL n (adjQ A i)else [])) (λ_ x _=>w-x.t20.toNat)
  (λc x V'=>∃k j:Nat,c.t20=k/\c.t7=k/\k<w/\x.t25=j/\j<=n/\x.o17.length=w/\W05 5 numC x.o0 V' x.o17 w (λi=>if i<k then rowL n (adjQ A i)else if i=k then rowL j (adjQ A k)else [])) (λ_ x _=>n-x.t25.toNat) ?_
 refine(S08 h (by rw[a02]; omega)).mono λv V1 l1 hv=>⟨_,_,hv,λhf => ?_,λ_ => ?_⟩
 . rw[e1]at hf; simp at hf
 rw[e2,hl,Int.toNat_natCast]
 refine⟨⟨by omega,by omega,by omega,by omega⟩,⟨0,rfl,by omega,by simp,?_⟩,?_⟩
 . rw[g13]; exact(T0l V1 w).congr λi _=>by rw[if_neg (by omega)]
 rintro⟨t20,o0,o17⟩ V3 l3 ⟨k,ek,hk,hol,hR⟩
 dsimp only at ek hol hR ⊢
 subst ek
 refine⟨λhlt=>⟨⟨k,0,rfl,rfl,by simp at hlt; omega,rfl,by omega,hol,hR.congr λi hi => ?_⟩,?_⟩,λhge => ?_⟩
 . by_cases e:i<k
   . rw[if_pos e,if_pos e]
   . rw[if_neg e,if_neg e]
     split<;>rfl
 . rintro⟨t25,o0',o17'⟩ V4 l4 ⟨k',j,ek,_,hkw,ej,hj,hol',hR'⟩
   dsimp only at ek ej hol' hR' ⊢
   obtain rfl:k=k':=by omega
   subst ej
   refine⟨λhlt2 => ?_,λhge2 => ?_⟩
   . have hjn:j<n:=by simp at hlt2; omega
     obtain⟨s3,e3,r1,r2,r3,⟨o3,r4,r5,r6⟩,r7⟩:=hR'.row (i:=k) hkw
     rw[if_neg (by omega),if_pos rfl]at r1 r6
     rw[m01]at r1
     obtain⟨g1,s,g2,g3⟩:=(h.le numC.le (View.le_trans l1 (View.le_trans l3 l4))).row (t:=(j:Int)) (by omega) (row:=rowL w (A j)) (by rw[Int.toNat_natCast]; exact k09 hjn A)
     rw[hl]at g1
     obtain⟨d1,x,hx,hxl,hh,hs⟩:=k00.get g3 (t:=(k:Int)) (by omega) (z:=A j k) (by rw[Int.toNat_natCast]; exact O06 hkw _)
     obtain⟨y,rfl,hy⟩:=hx
     refine⟨⟨by omega,by omega⟩,s3,by rw[Int.toNat_natCast,Nat.mul_one,Nat.zero_add]; exact e3,g1,s,.inr g2,d1,y,.inr hh,hs,(O0n hy).mono λv V5 l5 ⟨r,hv,hr⟩=>⟨r,hv,λb2 V6 l6 _ hb2 => ?_⟩⟩
     have hnew:V6.has (some (Addr.mk b2 0 none)) r.val.cells.toList:=Q04 (cs:=r.val.cells.toList) (j:=0) hb2 (λi v hv=>by rw[Nat.zero_add]; exact hv) rfl
     have hrc:numC V6 r.val.cells.toList (adjQ A k j):=⟨r,rfl,hr.le l6⟩
     refine⟨o3,_,⟨r2,r3⟩,f0g (View.le_trans l5 l6) r4,r5,.inr hnew,rfl,oneN hrc,by unfold maxLen; omega,by omega,λ_ h2=>r7 1 (by omega) h2,λa1 c1 m1 ha=>⟨⟨by omega,by omega⟩,by rw[hol',Int.toNat_natCast]; omega,?_⟩⟩
     have:=(hR'.le numC.le (View.le_trans l5 l6)).app (i:=k) hkw e3 (z:=adjQ A k j) rfl hrc (o':=o3) (by rw[if_neg (by omega),if_pos rfl]; exact r6.imp (numC.le (View.le_trans l5 l6))) ha
     rw[i64w (by omega) (by omega)]
     refine⟨⟨k,j+1,rfl,rfl,hkw,by omega,by omega,by simp[hol'],?_⟩,by omega⟩
     have e1:(0+Int.toNat (k:Int)*1)=k:=by omega
     rw[e1]
     refine this.congr λi hi => ?_
     by_cases e:i=k
     . subst e
       simp only[if_true,Nat.lt_irrefl,if_false]
       exact x0f _ _
     . simp only[if_neg e]
   . have e:j=n:=by simp at hge2; omega
     subst e
     rw[i64w (by omega) (by omega)]
     refine⟨⟨k+1,by omega,by omega,hol',hR'.congr λi hi => ?_⟩,by omega⟩
     by_cases e:i<k
     . rw[if_pos e,if_pos (by omega)]
     . rw[if_neg e]
       by_cases e2:i=k
       . subst e2; rw[if_pos rfl,if_pos (by omega)]
       . rw[if_neg e2,if_neg (by omega)]
 . have e:k=w:=by simp at hge; omega
   subst e
   refine⟨by decide,λV7 l7 hpub b5 V8 l8 hb5=>⟨_,rfl,?_⟩⟩
   have hR2:W05 5 numC o0 V3 o17 k (λi=>rowL n (adjQ A i)):=hR.congr λi hi=>by rw[if_pos hi]
   exact hR2.knownL numC.le hol (View.le_trans l7 l8) (λb cs hb=>l8 b cs (hpub b cs hb)) hb5
def nrmA(n:Nat)(A:Nat->Nat->Cq):Nat->Nat->Cq:=λi j=>sq (λk=>adjQ A i k*A k j) 0 n
def nrmB(n:Nat)(A:Nat->Nat->Cq)(b:Nat->Cq):Nat->Cq:=λi=>sq (λk=>adjQ A i k*b k) 0 n
theorem j12{f:Nat->Cq}{S:Nat}:∀(j:Nat),(∀k,k<j->(f k).sz<=S)->(sq f 0 j).sz<=1+j*(S+1)
 | 0,_=>by have:=x09; show Cq.zero.sz<=_; omega
 | j+1,h=>by
   have ih:=j12 j λk hk=>h k (by omega)
   have h1:=f0b (sq f 0 j) (f (0+j))
   have h2:=h (0+j) (by omega)
   rw[sq,Nat.add_mul]; omega
theorem F0y{n:Nat}{A:Nat->Nat->Cq}{S w:Nat}(h:∀i j,i<n->j<w->(A i j).sz<=S)(m:Nat)(hm:m<=n)(i j:Nat)(hi:i<w)(hj:j<w):(sq (λk=>adjQ A i k*A k j) 0 m).sz<=1+n*(2*S+2):=by
 have:=j12 (f:=λk=>adjQ A i k*A k j) (S:=2*S+1) m λk hk=>by
  have h1:=Z03 (adjQ A i k) (A k j)
  have h2:=h k i (by omega) hi
  have h3:=h k j (by omega) hj
  have h4:(adjQ A i k).sz=(A k i).sz:=C0d _
  omega
 have h2:m*(2*S+1+1)<=n*(2*S+2):=Nat.mul_le_mul hm (by omega)
 omega
theorem G0y{n:Nat}{A:Nat->Nat->Cq}{b:Nat->Cq}{S w:Nat}(h:∀i j,i<n->j<w->(A i j).sz<=S)(hb:∀i,i<n->(b i).sz<=S)(m:Nat)(hm:m<=n)(i:Nat)(hi:i<w):(sq (λk=>adjQ A i k*b k) 0 m).sz<=1+n*(2*S+2):=by
 have:=j12 (f:=λk=>adjQ A i k*b k) (S:=2*S+1) m λk hk=>by
  have h1:=Z03 (adjQ A i k) (b k)
  have h2:=h k i (by omega) hi
  have h3:=hb k (by omega)
  have h4:(adjQ A i k).sz=(A k i).sz:=C0d _
  omega
 have h2:m*(2*S+1+1)<=n*(2*S+2):=Nat.mul_le_mul hm (by omega)
 omega
theorem j0w{V:View}{p q:Sl}{n w:Nat}{A:Nat->Nat->Cq}{b:Nat->Cq}(S:Nat)(h:l04 5 numC V p (matL n w A))(hb:X0a V q (rowL n b))(h0:0<n)(hn:n<=32)(hw:w<=32)
 (hA:∀i j,i<n->j<w->(A i j).sz<=S) (hB:∀i,i<n->(b i).sz<=S) (T:Nat) (hT:T=1+n*(2*S+2))
 (hS:(T+2)*6^w+w*((T+2)*6^w+Xb ((T+2)*6^w) w+2)<=2^36) (hX:Xb ((T+2)*6^w) w<=2^36) :
 a00 prog x0r #[p.v,q.v] V λv V'=>∃r:Sl,match (elim numO w (w+1) (augN w (nrmA n A) (nrmB n A b))).2.2 with
  | none=>v = .tuple #[r.v,.int .i64 0]/\X0a V' r (rowL w (Z0a numO Cq.zero (elim numO w (w+1) (augN w (nrmA n A) (nrmB n A b))).1 w w)) /\
      ∀i,i<w->(Z0a numO Cq.zero (elim numO w (w+1) (augN w (nrmA n A) (nrmB n A b))).1 w w i).sz<=Xb ((T+2)*6^w) w
  | some _=>v = .tuple #[r.v,.int .i64 6]/\r=⟨none,0,0⟩:=by
 have hl:p.len=n:=by have:=h.len; rw[a02]at this; exact this
 have hql:q.len=n:=by have:=hb.len; rw[m01]at this; exact this
 have hpw:0<6^w:=Nat.pow_pos (by omega)
 have hTb:T+2<=2^36:=by
  have:(T+2)*1<=(T+2)*6^w:=Nat.mul_le_mul_left _ hpw
  omega
 have hSb:2*S+2<=2^36:=by
  have:1*(2*S+2)<=n*(2*S+2):=Nat.mul_le_mul_right _ h0
  omega
 have hcsz:∀i k,i<w->k<n->(adjQ A i k).sz<=S:=λi k hi hk=>by rw[show(adjQ A i k).sz=(A k i).sz from C0d _]; exact hA k i hk hi
 refine m0p p q V _ (λ_ _ _=>True)
  (λ_ x V'=>∃i:Nat,x.t38=i/\i<=w/\x.o32.length=w/\W05 5 numC x.o0 V' x.o32 w (λr=>if r<i then rowL w (nrmA n A r)else [])/\t01 5 numC V' x.o35 (rowL w λr=>if r<i then nrmB n A b r else Cq.zero))
  (λ_ x _=>w-x.t38.toNat)
  (λc x V'=>∃i j:Nat,c.t38=i/\c.t10=i/\i<w/\x.t45=j/\j<=w/\x.o32.length=w/\W05 5 numC x.o0 V' x.o32 w (λr=>if r<i then rowL w (nrmA n A r)else if r=i then rowL j (nrmA n A i)else []) /\
    t01 5 numC V' x.o35 (rowL w λr=>if r<i then nrmB n A b r else Cq.zero))
  (λ_ x _=>w-x.t45.toNat)
  (λc x V'=>∃i j k:Nat,c.t38=i/\c.t10=i/\i<w/\c.t45=j/\c.t12=j/\j<w/\x.t50=k/\k<=n/\x.o32.length=w/\W05 5 numC x.o0 V' x.o32 w (λr=>if r<i then rowL w (nrmA n A r)else if r=i then rowL j (nrmA n A i)else []) /\
    t01 5 numC V' c.o35 (rowL w λr=>if r<i then nrmB n A b r else Cq.zero)/\T00 V' x.o13 (sq (λk=>adjQ A i k*A k j) 0 k))
  (λ_ x _=>n-x.t50.toNat)
  (λc x V'=>∃i k:Nat,c.t38=i/\c.t10=i/\i<w/\x.t81=k/\k<=n/\c.o32.length=w/\W05 5 numC c.o0 V' c.o32 w (λr=>if r<i+1 then rowL w (nrmA n A r)else []) /\
    t01 5 numC V' x.o35 (rowL w λr=>if r<i then nrmB n A b r else if r=i then sq (λk=>adjQ A i k*b k) 0 k else Cq.zero))
  (λ_ x _=>n-x.t81.toNat) ?_
 refine(z0q h h0 hn hw).mono λv V1 l1 ⟨r1,hv,hr1⟩=>⟨r1,0,hv,⟨λhf=>absurd hf (by simp),λ_=>⟨λhf => ?_,λ_=>trivial⟩⟩,?_⟩
 . rw[hl,hql]at hf; simp at hf
 have hrl:r1.len=w:=by have:=hr1.len; rw[a02]at this; exact this
 rintro⟨u⟩ V2 l2 -
 rw[hrl,hl]
 have hz:(List.replicate (Int.toNat (w:Int)) [Value.bool false,Value.slice none 0 0,Value.bool false,Value.slice none 0 0,Value.slice none 0 0]).flatten.length=w*5:=by simp
 refine⟨⟨by omega,by omega,by omega,by omega⟩,⟨by omega,by omega,by omega,by omega⟩,⟨0,rfl,by omega,by simp,?_,?_⟩,?_⟩
 . rw[g13,Int.toNat_natCast]; exact(T0l V2 w).congr λi _=>by rw[if_neg (by omega)]
 . have e:(rowL w λr=>if r<0 then nrmB n A b r else Cq.zero)=List.replicate w Cq.zero:=by
     rw[<-x0g]; exact q06 λk _=>by rw[if_neg (by omega)]
   rw[e,Int.toNat_natCast]; exact y0t.zeros V2 w
 rintro⟨t38,o0,o32,o35⟩ V5 l5 ⟨i,ei,hi,hol,hR,hC⟩
 dsimp only at ei hol hR hC ⊢
 subst ei
 refine⟨λhlt => ?_,λhge => ?_⟩
 . have hiw:i<w:=by simp at hlt; omega
   have L5:=View.le_trans l2 l5
   obtain⟨g1,s,g2,g3⟩:=(hr1.le numC.le L5).row (t:=(i:Int)) (by omega) (row:=rowL n (adjQ A i)) (by rw[Int.toNat_natCast]; exact k09 hiw _)
   rw[hrl]at g1
   have g3l:s.len=n:=by have:=g3.len; rw[m01]at this; exact this
   refine⟨g1,s,.inr g2,⟨i,0,rfl,rfl,hiw,rfl,by omega,hol,hR.congr λr _ => ?_,hC⟩,?_⟩
   . by_cases e:r<i
     . rw[if_pos e,if_pos e]
     . rw[if_neg e,if_neg e]; split<;>rfl
   rintro⟨t45,o0',o32',o35'⟩ V6 l6 ⟨i',j,ei,_,_,ej,hj,hol',hR',hC'⟩
   dsimp only at ei ej hol' hR' hC' ⊢
   obtain rfl:i=i':=by omega
   subst ej
   refine⟨λhlt2 => ?_,λhge2 => ?_⟩
   . have hjw:j<w:=by simp at hlt2; omega
     refine⟨⟨i,j,0,rfl,rfl,hiw,rfl,rfl,hjw,rfl,by omega,hol',hR',hC',T00.zero V6⟩,?_⟩
     rintro⟨t50,o0'',o13,o32''⟩ V7 l7 ⟨i',j',k,ei,_,_,ej,_,_,ek,hk,hol'',hR'',hC'',hs⟩
     dsimp only at ei ej ek hol'' hR'' hC'' hs ⊢
     obtain rfl:i=i':=by omega
     obtain rfl:j=j':=by omega
     subst ek
     have L7:=View.le_trans l6 l7
     refine⟨λhlt3 => ?_,λhge3 => ?_⟩
     . have hkn:k<n:=by simp at hlt3; omega
       obtain⟨d1,x,⟨y,rfl,hy⟩,hxl,hh,hsm⟩:=k00.get (k00.le (numC.le L7) L7 g3) (t:=(k:Int)) (by omega) (z:=adjQ A i k) (by rw[Int.toNat_natCast]; exact O06 hkn _)
       obtain⟨f1,s2,f2,f3⟩:=(h.le numC.le (View.le_trans l1 (View.le_trans L5 L7))).row (t:=(k:Int)) (by omega) (row:=rowL w (A k)) (by rw[Int.toNat_natCast]; exact k09 hkn A)
       rw[hl]at f1
       obtain⟨d2,x2,⟨y2,rfl,hy2⟩,hxl2,hh2,hsm2⟩:=k00.get f3 (t:=(j:Int)) (by omega) (z:=A k j) (by rw[Int.toNat_natCast]; exact O06 hjw _)
       have z1:=hcsz i k hiw hkn
       have z2:=hA k j hkn hjw
       have z3:=F0y hA k hk i j hiw hjw
       have z4:=Z03 (adjQ A i k) (A k j)
       refine⟨d1,y,.inr hh,hsm,f1,s2,.inr f2,d2,y2,.inr hh2,hsm2,(A04 hy hy2 (by omega) (by omega)).mono λv V8 l8 ⟨r3,hv,h3⟩=>⟨r3,hv,?_⟩⟩
       refine(g06 (hs.le l8) h3 (by omega) (by omega)).mono λv V9 l9 ⟨r4,hv,h4⟩=>⟨r4,hv,?_⟩
       rw[i64w (by omega) (by omega)]
       have L9:=View.le_trans l8 l9
       refine⟨⟨i,j,k+1,rfl,rfl,hiw,rfl,rfl,hjw,by omega,by omega,hol'',hR''.le numC.le L9,hC''.imp (numC.le L9),?_⟩,by omega⟩
       rw[sq,Nat.zero_add]; exact h4
     . have e:k=n:=by simp at hge3; omega
       subst e
       obtain⟨s3,e3,r1',r2,r3,⟨o3,r4,r5,r6⟩,r7⟩:=hR''.row (i:=i) hiw
       rw[if_neg (by omega),if_pos rfl]at r1' r6
       rw[m01]at r1'
       refine⟨⟨by omega,by omega⟩,s3,by rw[Int.toNat_natCast,Nat.mul_one,Nat.zero_add]; exact e3,λb3 V10 l10 _ hb3 => ?_⟩
       have hnew:V10.has (some (Addr.mk b3 0 none)) o13.val.cells.toList:=Q04 (cs:=o13.val.cells.toList) (j:=0) hb3 (λi v hv=>by rw[Nat.zero_add]; exact hv) rfl
       have hrc:numC V10 o13.val.cells.toList (nrmA k A i j):=⟨o13,rfl,hs.le l10⟩
       refine⟨o3,_,⟨r2,r3⟩,f0g l10 r4,r5,.inr hnew,rfl,oneN hrc,by unfold maxLen; omega,by omega,λ_ h2=>r7 1 (by omega) h2,λa1 c1 m1 ha=>⟨⟨by omega,by omega⟩,by rw[hol'',Int.toNat_natCast]; omega,?_⟩⟩
       have:=(hR''.le numC.le l10).app (i:=i) hiw e3 (z:=nrmA k A i j) rfl hrc (o':=o3) (by rw[if_neg (by omega),if_pos rfl]; exact r6.imp (numC.le l10)) ha
       rw[i64w (by omega) (by omega)]
       refine⟨⟨i,j+1,rfl,rfl,hiw,by omega,by omega,by simp[hol''],?_,hC''.imp (numC.le l10)⟩,by omega⟩
       have e1:(0+Int.toNat (i:Int)*1)=i:=by omega
       rw[e1]
       refine this.congr λr hr => ?_
       by_cases e:r=i
       . subst e
         simp only[if_true,Nat.lt_irrefl,if_false]
         exact x0f _ _
       . simp only[if_neg e]
   . have ej:j=w:=by simp at hge2; omega
     subst ej
     have hR4:W05 5 numC o0' V6 o32' j (λr=>if r<i+1 then rowL j (nrmA n A r)else []):=hR'.congr λr _=>by
      by_cases e:r<i
      . rw[if_pos e,if_pos (by omega)]
      . rw[if_neg e]
        by_cases e2:r=i
        . subst e2; rw[if_pos rfl,if_pos (by omega)]
        . rw[if_neg e2,if_neg (by omega)]
     refine⟨⟨i,0,rfl,rfl,hiw,rfl,by omega,hol',hR4,?_⟩,?_⟩
     . rw[q06 (g:=λr=>if r<i then nrmB n A b r else Cq.zero) (λr _=>by
         by_cases e:r<i
         . rw[if_pos e,if_pos e]
         . rw[if_neg e,if_neg e]; split<;>rfl)]
       exact hC'
     rintro⟨t81,o35''⟩ V11 l11 ⟨i',k,ei,_,_,ek,hk,hol4,hR5,hC5⟩
     dsimp only at ei ek hol4 hR5 hC5 ⊢
     obtain rfl:i=i':=by omega
     subst ek
     have L11:=View.le_trans l6 l11
     refine⟨λhlt3 => ?_,λhge3 => ?_⟩
     . have hkn:k<n:=by simp at hlt3; omega
       obtain⟨x0,⟨y0,rfl,hy0⟩,hxl0,hg0⟩:=hC5.at (i:=i) (z:=sq (λk=>adjQ A i k*b k) 0 k) (by rw[O06 hiw,if_neg (by omega),if_pos rfl])
       obtain⟨d1,x,⟨y,rfl,hy⟩,hxl,hh,hsm⟩:=k00.get (k00.le (numC.le L11) L11 g3) (t:=(k:Int)) (by omega) (z:=adjQ A i k) (by rw[Int.toNat_natCast]; exact O06 hkn _)
       obtain⟨d2,x2,⟨y2,rfl,hy2⟩,hxl2,hh2,hsm2⟩:=k00.get (hb.le (View.le_trans l1 (View.le_trans L5 L11))) (t:=(k:Int)) (by omega) (z:=b k) (by rw[Int.toNat_natCast]; exact O06 hkn _)
       rw[hql]at d2
       have z1:=hcsz i k hiw hkn
       have z2:=hB k hkn
       have z3:=G0y hA hB k hk i hiw
       have z4:=Z03 (adjQ A i k) (b k)
       refine⟨⟨by omega,by omega⟩,y0,by rw[Int.toNat_natCast]; exact hg0,d1,y,.inr hh,hsm,by rw[hql]; exact d2,y2,.inr hh2,hsm2,(A04 hy hy2 (by omega) (by omega)).mono λv V12 l12 ⟨r5,hv,h5⟩=>⟨r5,hv,?_⟩⟩
       refine(g06 (T00.le l12 hy0) h5 (by omega) (by omega)).mono λv V13 l13 ⟨r6,hv,h6⟩=>⟨r6,hv,⟨by omega,by omega⟩,?_,?_⟩
       . rw[hC5.length,m01,Int.toNat_natCast]
         have e2:i*5+5=(i+1)*5:=by omega
         rw[Nat.zero_add,e2]; exact Nat.mul_le_mul_right _ hiw
       . have L13:=View.le_trans l12 l13
         rw[i64w (by omega) (by omega)]
         refine⟨⟨i,k+1,rfl,rfl,hiw,by omega,by omega,hol4,hR5.le numC.le L13,?_⟩,by omega⟩
         have hset:=(hC5.imp (numC.le L13)).set0 (i:=i) (by rw[m01]; exact hiw) (lenN r6) (m10 h6)
         rw[W0h]at hset
         rw[Int.toNat_natCast]
         rw[q06 (g:=λr=>if r<i then nrmB n A b r else if r=i then sq (λk=>adjQ A i k*b k) 0 (k+1)else Cq.zero) (λr _=>by
          by_cases e:r=i
          . subst e; rw[if_pos rfl,if_neg (by omega),if_pos rfl,sq,Nat.zero_add]
          . rw[if_neg e,if_neg e,if_neg e])]at hset
         exact hset
     . have e:k=n:=by simp at hge3; omega
       subst e
       rw[i64w (by omega) (by omega)]
       refine⟨⟨i+1,by omega,by omega,hol4,hR5,?_⟩,by omega⟩
       rw[q06 (g:=λr=>if r<i then nrmB k A b r else if r=i then sq (λk=>adjQ A i k*b k) 0 k else Cq.zero) (λr _=>by
        by_cases e:r<i
        . rw[if_pos e,if_pos (by omega)]
        . rw[if_neg e]
          by_cases e2:r=i
          . subst e2; rw[if_pos rfl,if_pos (by omega)]; rfl
          . rw[if_neg e2,if_neg (by omega)])]
       exact hC5
 . have ei:i=w:=by simp at hge; omega
   subst ei
   refine⟨by decide,λV14 l14 hpub b6 V15 l15 hb6 b7 V16 l16 hb7 => ?_⟩
   have hR2:W05 5 numC o0 V5 o32 i (λr=>rowL i (nrmA n A r)):=hR.congr λr hr=>by rw[if_pos hr]
   have L16:=View.le_trans l14 (View.le_trans l15 l16)
   have hM:l04 5 numC V16 ⟨some ⟨b6,0,none⟩,i,i⟩ (matL i i (nrmA n A)):=hR2.knownL numC.le hol L16 (λb cs hb=>l16 b cs (l15 b cs (hpub b cs hb))) (l16 _ _ hb6)
   rw[q06 (g:=nrmB n A b) (λr hr=>by rw[if_pos hr])]at hC
   have hv':X0a V16 ⟨some ⟨b7,0,none⟩,i,i⟩ (rowL i (nrmB n A b)):=L06 hb7 (hC.imp (numC.le L16)) (by rw[m01])
   rw[Int.toNat_natCast]
   have tA:∀r j,r<i->j<i->(nrmA n A r j).sz<=T:=λr j h1 h2=>by rw[hT]; exact F0y hA n (Nat.le_refl n) r j h1 h2
   have tB:∀r,r<i->(nrmB n A b r).sz<=T:=λr h1=>by rw[hT]; exact G0y hA hB n (Nat.le_refl n) r h1
   refine(Q0s T hM hv' hw tA tB hS hX).mono λv V17 l17 ⟨r7,h7⟩ => ?_
   cases e:(elim numO i (i+1) (augN i (nrmA n A) (nrmB n A b))).2.2 with
   | none=>rw[e]at h7; exact⟨r7,0,h7.1,r7,rfl,h7.2⟩
   | some c=>rw[e]at h7; exact⟨r7,6,h7.1,r7,rfl,h7.2⟩
theorem H0y{V:View}(s:M04):a00 prog x0h #[s.val] V λv _=>v=(Y04.mk s.x s.y s.z).val:=t0g s V _ rfl
theorem q0j{V:View}(a:Y04):a00 prog y0r #[a.val] V λv _=>v=(M04.mk a.e0 a.e1 a.e2).val :=
 n0p a V _ ⟨⟨by omega,by omega⟩,⟨by omega,by omega⟩,⟨by omega,by omega⟩,rfl⟩
theorem S0s{V:View}{s:M04}{p:P3}(h:N07 V s p):a00 prog q0a #[s.val] V λv _=>v = .bool (!p.real):=by
 refine J0i s V _ ((J02 h.x).mono λv V1 l1 hv=>⟨_,hv,λh1 => ?_,λh1 => ?_⟩)
 . have:decide (p.x.im=0)=false:=by simpa using h1
   unfold P3.real; rw[this]; rfl
 . have e1:decide (p.x.im=0)=true:=by simpa using h1
   refine(J02 (h.y.le l1)).mono λv V2 l2 hv=>⟨_,hv,λh2 => ?_,λh2 => ?_⟩
   . have:decide (p.y.im=0)=false:=by simpa using h2
     unfold P3.real; rw[e1,this]; rfl
   . have e2:decide (p.y.im=0)=true:=by simpa using h2
     refine(J02 (h.z.le (View.le_trans l1 l2))).mono λv V3 l3 hv=>⟨_,hv,?_⟩
     unfold P3.real; rw[e1,e2]; rfl
theorem T0s{V:View}{s:Sl}{ps:List P3}(h:k00 15 G0s V s ps)(hn:ps.length<=2^40)(q:Fn0) :
 a00 prog P05 #[s.v,q.val q0a] V λv _=>∃r:Int,v = .int .i64 r/\(0<=r↔∃p,p∈ps/\p.real=false):=by
 have hl:=h.len
 refine a04 s q V _ (λ_ x _=>∃t:Nat,x.t8=t/\t<=ps.length/\∀p,p∈ps.take t->p.real=true) (λ_ x _=>ps.length-x.t8.toNat) ⟨⟨0,rfl,by omega,by simp⟩,?_⟩
 rintro⟨t⟩ V1 l1 ⟨t',ht,htn,hi⟩
 dsimp only at ht ⊢
 subst ht
 refine⟨λhlt => ?_,λhge => ?_⟩
 . simp only[decide_eq_true_eq]at hlt
   have hk:t'<ps.length:=by omega
   obtain⟨g1,x,⟨y,rfl,hy⟩,_,hh,hs⟩:=k00.get (k00.le (G0s.le l1) l1 h) (t:=(t':Int)) (by omega) (z:=ps[t']) (by simp)
   refine⟨g1,y,hh,hs,(S0s hy).mono λv V2 l2 hv=>⟨_,hv,λhr=>⟨_,rfl,?_⟩,λhr => ?_⟩⟩
   . have e:ps[t'].real=false:=by simpa using hr
     exact⟨λ_=>⟨_,List.getElem_mem hk,e⟩,λ_=>by omega⟩
   . have e:ps[t'].real=true:=by simpa using hr
     rw[i64w (by omega) (by omega)]
     refine⟨⟨t'+1,by omega,by omega,λp hp => ?_⟩,by omega⟩
     rw[List.take_add_one,List.getElem?_eq_getElem hk]at hp
     simp only[Option.toList_some,List.mem_append,List.mem_singleton]at hp
     rcases hp with hp|hp
     . exact hi p hp
     . subst hp; exact e
 . have e:t'=ps.length:=by simp at hge; omega
   subst e
   rw[List.take_length]at hi
   exact⟨-1,rfl,λh=>absurd h (by omega),λ⟨p,h1,h2⟩=>by rw[hi p h1]at h2; simp at h2⟩
theorem J0l{V:View}{s:Sl}{ps:List P3}(h:k00 15 G0s V s ps)(hn:ps.length<=2^40):a00 prog U0g #[s.v] V λv _=>v = .bool (ps.all P3.real):=by
 refine N0m s V _ ((z03 s ⟨⟩ V _ ((T0s h hn _).mono λv V1 l1 ⟨r,hv,hr⟩=>⟨r,hv,?_⟩):a00 prog z05 #[s.v,(Fn0.mk).val q0a] V λv _=>v = .bool (!ps.all P3.real)).mono λv V1 l1 hv=>⟨_,hv,?_⟩)
 . congr 1
   rw[Bool.eq_iff_iff,decide_eq_true_eq,ge_iff_le,hr]
   simp only[Bool.not_eq_true',List.all_eq_false,Bool.not_eq_true]
 . rw[Bool.not_not]
theorem I0y{V:View}{s:M04}{p:P3}(h:N07 V s p){b:Nat}(hb:V b=some s.val.cells):a00 prog U0g #[(Sl.mk (some (Addr.mk b 0 none)) 1 1).v] V λv _=>v = .bool p.real:=by
 refine(J0l (ps:=[p]) (k00.of_block (o:=s.val.cells.toList) (o':=[]) (b:=b) (λ_=>by simpa using hb) (t01.one rfl ⟨s,rfl,h⟩) rfl (Nat.le_refl _) (λ_=>rfl)) (by show 1<=2^40; decide)).mono λv V1 _ hv => ?_
 rw[hv]; simp
theorem K0h{V:View}{s:t05}{f:F3}(h:A0e V s f):a00 prog T0e #[s.val] V λv _=>v = .bool f.real:=by
 refine s0e s V _ λb1 V1 l1 _ hb1 => ?_
 have hC:t01 15 G0s V1 (s.o.val.cells.toList++(s.u.val.cells.toList++s.v.val.cells.toList)) [f.o,f.u,f.v] :=
  ⟨_,_,rfl,rfl,⟨s.o,rfl,h.o.le l1⟩,_,_,rfl,rfl,⟨s.u,rfl,h.u.le l1⟩,_,[],by simp,rfl,⟨s.v,rfl,h.v.le l1⟩,rfl⟩
 refine(J0l (ps:=[f.o,f.u,f.v]) (k00.of_block (o:=s.o.val.cells.toList++(s.u.val.cells.toList++s.v.val.cells.toList)) (o':=[]) (b:=b1) (λ_=>by rw[List.append_nil]; exact hb1) hC rfl (Nat.le_refl _) (λ_=>rfl)) (by show 3<=2^40; decide)).mono λv V2 l2 hv=>⟨_,hv,?_⟩
 simp[F3.real]
theorem o10{V:View}{a b:M04}{p q:P3}{S T:Nat}(hp:N07 V a p)(hq:N07 V b q)(sp:p.szle S)(sq:q.szle T)(hS:S+T<=2^37) :
 a00 prog L0u #[a.val,b.val] V λv V'=>∃r:NumV,v=r.val/\T00 V' r (dotP p q):=by
 obtain⟨s1,s2,s3⟩:=sp
 obtain⟨t1,t2,t3⟩:=sq
 have a1:=Z03 p.x q.x; have a2:=Z03 p.y q.y; have a3:=Z03 p.z q.z
 have b1:=f0b (p.x*q.x) (p.y*q.y)
 refine g0s a b V _ ((A04 hp.x hq.x (by omega) (by omega)).mono λv V1 l1 ⟨r1,hv,h1⟩=>⟨r1,hv,?_⟩)
 refine(A04 (hp.y.le l1) (hq.y.le l1) (by omega) (by omega)).mono λv V2 l2 ⟨r2,hv,h2⟩=>⟨r2,hv,?_⟩
 refine(g06 (h1.le l2) h2 (by omega) (by omega)).mono λv V3 l3 ⟨r3,hv,h3⟩=>⟨r3,hv,?_⟩
 have L:=View.le_trans l1 (View.le_trans l2 l3)
 refine(A04 (hp.z.le L) (hq.z.le L) (by omega) (by omega)).mono λv V4 l4 ⟨r4,hv,h4⟩=>⟨r4,hv,?_⟩
 exact(g06 (h3.le l4) h4 (by omega) (by omega)).mono λv V5 l5 ⟨r5,hv,h5⟩=>⟨r5,hv,r5,rfl,h5⟩
theorem H0g{V:View}{n:Int}(h0 : -9223372036854775808<=n)(h1:n<=9223372036854775807):a00 prog G0o #[.int .i64 n] V λv V'=>∃r:NumV,v=r.val/\T00 V' r ⟨(n:Rat),0⟩ :=
 O0m n V _ ((F08 h0 h1).mono λv V1 l1 ⟨r1,hv,h1⟩=>⟨r1,hv,r1,rfl,h1⟩)
theorem J0y{V:View}{s:t05}{f:F3}{S:Nat}(h:A0e V s f)(sf:f.szle S)(hS:S<=2^36) :
 a00 prog u0r #[s.val] V λv V'=>∃r:NumV,v = .tuple #[r.val,.int .i64 (if f.real=true then 0 else 1)]/\T00 V' r (if f.real=true then dotP f.u f.v else Cq.zero):=by
 refine o0p s V _ ((K0h h).mono λv V1 l1 hv=>⟨_,hv,λhr => ?_,λhr => ?_⟩)
 . have e:f.real=false:=by simpa using hr
   rw[e]; exact⟨zN,rfl,T00.zero V1⟩
 . have e:f.real=true:=by simpa using hr
   rw[e]
   exact(o10 (h.u.le l1) (h.v.le l1) sf.u sf.v (by omega)).mono λv V2 l2 ⟨r2,hv,h2⟩=>⟨r2,hv,r2,rfl,h2⟩
structure Mk where
 i:Int
 j:Int
 p:P3
def Mk.in64(m:Mk):Prop:=(-9223372036854775808<=m.i/\m.i<=9223372036854775807)/\(-9223372036854775808<=m.j/\m.j<=9223372036854775807)
structure N13 (V:View) (s:p0g) (m:Mk):Prop where
 i:s.i=m.i
 j:s.j=m.j
 p:N07 V s.at_ m.p
def k0w(V:View)(x:List Value)(m:Mk):Prop:=∃s:p0g,x=s.val.cells.toList/\N13 V s m
theorem k0w.le{V V':View}(hle:V.le V')(x:List Value)(m:Mk)(h:k0w V x m):k0w V' x m:=by
 obtain⟨s,e,h1,h2,h3⟩:=h; exact⟨s,e,h1,h2,h3.le hle⟩
def s0j(V:View)(s:Sl)(ms:List Mk):Prop:=k00 17 k0w V s ms
theorem s0j.le{V V':View}(hle:V.le V'){s:Sl}{ms:List Mk}(h:s0j V s ms):s0j V' s ms:=k00.le (k0w.le hle) hle h
def intQ(n:Int):Cq:=⟨(n:Rat),0⟩
theorem I0b{n:Int}(h : -9223372036854775808<=n/\n<=9223372036854775807):(intQ n).sz<=64:=by
 refine(Rep.ofInt n).sz (k:=64) ?_ (by decide) (by decide)
 exact j02 (by omega)
def K0y(p:P3)(a:Nat):Cq:=if a=0 then p.x else if a=1 then p.y else p.z
def mkD:Mk:=⟨0,0,P3.zero⟩
def fitA(ms:List Mk):Nat->Nat->Cq:=λr k=>if k=0 then intQ 1 else if k=1 then intQ (ms.getD r mkD).i else intQ (ms.getD r mkD).j
def fitB(ms:List Mk)(a:Nat):Nat->Cq:=λr=>K0y (ms.getD r mkD).p a
def fitX(ms:List Mk)(a:Nat):Nat->Cq:=Z0a numO Cq.zero (elim numO 3 4 (augN 3 (nrmA ms.length (fitA ms)) (nrmB ms.length (fitA ms) (fitB ms a)))).1 3 3
def fitF(ms:List Mk):F3:=⟨⟨fitX ms 0 0,fitX ms 1 0,fitX ms 2 0⟩,⟨fitX ms 0 1,fitX ms 1 1,fitX ms 2 1⟩,⟨fitX ms 0 2,fitX ms 1 2,fitX ms 2 2⟩⟩
def A0q(ms:List Mk):Cq:=detD 3 (nrmA ms.length (fitA ms))
def fitE(ms:List Mk):Int:=if ms.length<3\/32<ms.length then 4 else if ms.all (λm=>m.p.real)=true then(if A0q ms=Cq.zero then 6 else 0)else 1
theorem k12(ms:List Mk)(a:Nat):detD 3 (augN 3 (nrmA ms.length (fitA ms)) (nrmB ms.length (fitA ms) (fitB ms a)))=A0q ms:=rfl
theorem t0j{n:Nat}(hn:n<=32):(1+n*(2*1100+2)+2)*6^3+3*((1+n*(2*1100+2)+2)*6^3+Xb ((1+n*(2*1100+2)+2)*6^3) 3+2)<=2^36/\Xb ((1+n*(2*1100+2)+2)*6^3) 3<=2^32:=by
 have hT:(1+n*(2*1100+2)+2)*6^3<=15300000:=by omega
 generalize (1+n*(2*1100+2)+2)*6^3=T at *
 have e:Xb T 3<=204*T+408:=by simp only[Xb]; omega
 omega
theorem m12{ms:List Mk}(h:∀m∈ms,m.in64)(r k:Nat):(fitA ms r k).sz<=64:=by
 have hd:(ms.getD r mkD).in64:=by
  rcases Nat.lt_or_ge r ms.length with g|g
  . have e:ms.getD r mkD=ms[r]:=by simp[List.getD,g]
    rw[e]; exact h _ (List.getElem_mem g)
  . have e:ms.getD r mkD=mkD:=by simp[List.getD,g]
    rw[e]; exact⟨⟨by show(-9223372036854775808:Int)<=0; decide,by show(0:Int)<=9223372036854775807; decide⟩,⟨by show(-9223372036854775808:Int)<=0; decide,by show(0:Int)<=9223372036854775807; decide⟩⟩
 unfold fitA
 split
 . exact I0b ⟨by decide,by decide⟩
 . split
   . exact I0b hd.1
   . exact I0b hd.2
theorem u0j{ms:List Mk}{r:Nat}(h:r<ms.length):ms[r]?=some (ms.getD r mkD):=by simp[List.getD,h]
theorem l0w{V:View}{s:M04}{p:P3}(h:N07 V s p){a:Nat}(ha:a<3) :
 ∃y:NumV,List.take 5 (List.drop (a*5) (s.x.val.cells.toList++(s.y.val.cells.toList++s.z.val.cells.toList)))=y.val.cells.toList/\T00 V y (K0y p a):=by
 obtain⟨x,⟨y,rfl,hy⟩,_,hg⟩:=(Z10 h.x h.y h.z).at (i:=a) (z:=K0y p a) (by
  have:a=0\/a=1\/a=2:=by omega
  rcases this with rfl|rfl|rfl<;>rfl)
 rw[Nat.zero_add]at hg
 exact⟨y,hg,hy⟩
theorem n12{p:P3}{S:Nat}(h:p.szle S)(a:Nat):(K0y p a).sz<=S:=by
 unfold K0y
 split
 . exact h.1
 . split
   . exact h.2.1
   . exact h.2.2
theorem I0g{V:View}{o:List Value}{g:Nat->Cq}(h:t01 5 numC V o (rowL 9 g))(k:Nat)(hk:k<3) :
 ∃a:Y04,List.take 15 (List.drop (k*15) o)=a.val.cells.toList/\T00 V a.e0 (g (3*k))/\T00 V a.e1 (g (3*k+1))/\T00 V a.e2 (g (3*k+2)):=by
 have h1:=(h.drop (3*k)).take 3
 have e:List.take 3 (List.drop (3*k) (rowL 9 g))=[g (3*k),g (3*k+1),g (3*k+2)]:=by
  have:k=0\/k=1\/k=2:=by omega
  rcases this with rfl|rfl|rfl<;>rfl
 have e1:3*k*5=k*15:=by omega
 rw[e,e1]at h1
 obtain⟨a,ho,h2,h3,h4⟩:=U0x h1
 exact⟨a,ho,h2,h3,h4⟩
def T0b(ms:List Mk)(a k:Nat):Nat->Cq:=λq=>if q%3<a\/(q%3=a/\q / 3<k)then fitX ms (q%3) (q / 3)else Cq.zero
theorem q12(ms:List Mk)(r:Nat):rowL 3 (fitA ms r)=[intQ 1,intQ (ms.getD r mkD).i,intQ (ms.getD r mkD).j]:=rfl
theorem O13{V:View}{b:Nat}{a1 a2 a3:NumV}{x y z:Cq}(hb:V b=some (a1.val.cells.toList++(a2.val.cells.toList++a3.val.cells.toList)).toArray)(h1:T00 V a1 x)(h2:T00 V a2 y)(h3:T00 V a3 z) :
 k00 5 numC V ⟨some ⟨b,0,none⟩,3,3⟩ [x,y,z] :=
 k00.of_block (o:=a1.val.cells.toList++(a2.val.cells.toList++a3.val.cells.toList)) (o':=[]) (b:=b) (λ_=>by rw[List.append_nil]; exact hb) (Z10 h1 h2 h3) rfl (Nat.le_refl _) (λ_=>rfl)
set_option maxHeartbeats 1000000 in
theorem q10{V:View}{s:Sl}{ms:List Mk}(h:s0j V s ms)(hi:∀m∈ms,m.in64)(hz:∀m∈ms,m.p.szle 1100) :
 a00 prog G0u #[s.v] V λv V'=>∃r:t05,v = .tuple #[r.val,.int .i64 (fitE ms)]/\A0e V' r (if fitE ms=0 then fitF ms else F3.zero) /\
  (fitE ms=0->(fitF ms).szle (2^32)):=by
 have hl:s.len=ms.length:=h.len
 let n:=ms.length
 let A:=fitA ms
 have nil:∀(e:Int) (V':View),fitE ms=e->e≠0->∃r:t05,Value.tuple #[(t05.mk ⟨zN,zN,zN⟩ ⟨zN,zN,zN⟩ ⟨zN,zN,zN⟩).val,.int .i64 e]=Value.tuple #[r.val,.int .i64 (fitE ms)] /\
  A0e V' r (if fitE ms=0 then fitF ms else F3.zero)/\(fitE ms=0->(fitF ms).szle (2^32)):=λe V' he hne=>by
  rw[he,if_neg hne]; exact⟨_,rfl,A0e.zero V',λh=>absurd h hne⟩
 let rowN:View->List Value->List Cq->Prop:=λV x row=>∃s:Sl,x=[s.v]/\k00 5 numC V s row
 have rowN_le:∀ {V V':View},V.le V'->∀x row,rowN V x row->rowN V' x row:=λhle x row ⟨s,e,hs⟩=>⟨s,e,X0a.le hle hs⟩
 refine i0s s V _ (λ_ _ _=>3<=n/\n<=32)
  (λ_ x V'=>∃(t:Nat) (l:List Value),x.t26=t/\t<=n/\f03 1 x.t4l x.t4c x.o4 l/\x.t4l=t/\t01 1 rowN V' l (matL t 3 A)/\∀m∈ms.take t,m.p.real=true) (λ_ x _=>n-x.t26.toNat)
  (λ_ x V'=>∃a:Nat,x.t48=a/\a<=3/\t01 5 numC V' x.o7 (rowL 9 (T0b ms a 0))/\(0<a->A0q ms≠Cq.zero/\∀b,b<a->∀k,k<3->(fitX ms b k).sz<=2^32)) (λ_ x _=>3-x.t48.toNat)
  (λc x V'=>∃(a t:Nat) (l:List Value),c.t48=a/\a<3/\x.t53=t/\t<=n/\f03 5 x.t9l x.t9c x.o9 l/\x.t9l=t/\t01 5 numC V' l (rowL t (fitB ms a))/\t01 5 numC V' x.o7 (rowL 9 (T0b ms a 0))) (λ_ x _=>n-x.t53.toNat)
  (λc x V'=>∃a k:Nat,c.t48=a/\a<3/\x.t77=k/\k<=3/\t01 5 numC V' x.o7 (rowL 9 (T0b ms a k))) (λ_ x _=>3-x.t77.toNat) ?_
 rw[hl]
 refine⟨⟨λh3=>nil 4 V ?_ (by decide),λh3=>⟨λh4=>nil 4 V ?_ (by decide),λh4 => ?_⟩⟩,?_⟩
 . unfold fitE; rw[if_pos (.inl (by simp at h3; omega))]
 . unfold fitE; rw[if_pos (.inr (by simp at h4; omega))]
 . exact⟨by simp at h3; omega,by simp at h4; omega⟩
 rintro⟨o2⟩ V1 l1 ⟨hn3,hn32⟩
 have hn3:3<=ms.length:=hn3
 have hn32:ms.length<=32:=hn32
 refine⟨⟨0,[],rfl,by omega,f03.nil,rfl,rfl,by simp⟩,?_⟩
 rintro⟨t4l,t4c,t26,o2',o4⟩ V2 l2 ⟨t,l,et,ht,hL,e4,hC,hreal⟩
 dsimp only at et hL e4 hC ⊢
 subst et; subst e4
 have L2:=View.le_trans l1 l2
 refine⟨λhlt => ?_,λhge => ?_⟩
 . have hk:t4l<ms.length:=by simp at hlt; omega
   obtain⟨g1,x,⟨m,rfl,hm⟩,_,hh,hs⟩:=k00.get (h.le L2) (t:=(t4l:Int)) (by omega) (z:=ms.getD t4l mkD) (by rw[Int.toNat_natCast]; exact u0j hk)
   rw[hl]at g1
   have hmem:ms.getD t4l mkD∈ms:=List.mem_of_getElem? (u0j hk)
   obtain⟨i1,i2⟩:=hi _ hmem
   refine⟨g1,m,hh,hs,λb1 V3 l3 _ hb1=>(I0y (hm.p.le l3) hb1).mono λv V4 l4 hv=>⟨_,hv,λhr=>nil 1 V4 ?_ (by decide),λhr => ?_⟩⟩
   . have e:(ms.getD t4l mkD).p.real=false:=by simpa using hr
     unfold fitE
     rw[if_neg (by omega),if_neg (by
      intro hall
      rw[List.all_eq_true]at hall
      rw[hall _ hmem]at e; simp at e)]
   . have hre:(ms.getD t4l mkD).p.real=true:=by simpa using hr
     refine(H0g (by omega) (by omega)).mono λv V5 l5 ⟨r2,hv,h2⟩=>⟨r2,hv,?_⟩
     rw[hm.i,hm.j]
     refine(H0g i1.1 i1.2).mono λv V6 l6 ⟨r3,hv,h3⟩=>⟨r3,hv,?_⟩
     refine(H0g i2.1 i2.2).mono λv V7 l7 ⟨r4,hv,h4⟩=>⟨r4,hv,λb2 V8 l8 _ hb2 b3 V9 l9 _ hb3 => ?_⟩
     have M9:=View.le_trans l8 l9
     have hrow:k00 5 numC V9 ⟨some ⟨b2,0,none⟩,3,3⟩ (rowL 3 (fitA ms t4l)):=by
      rw[q12]
      exact O13 (l9 _ _ hb2) (h2.le (View.le_trans l6 (View.le_trans l7 M9))) (h3.le (View.le_trans l7 M9)) (h4.le M9)
     have hnew:V9.has (some (Addr.mk b3 0 none)) [Value.slice (some ⟨b2,0,none⟩) 3 3]:=Q04 (cs:=[Value.slice (some ⟨b2,0,none⟩) 3 3]) (j:=0) hb3 (λi v hv=>by rw[Nat.zero_add]; exact hv) rfl
     refine⟨l,_,hL,hnew,rfl,by intro v hv; simp at hv; subst hv; rfl,by unfold maxLen; omega,by omega,λc1 l3' hl3 => ?_⟩
     rw[i64w (by omega) (by omega)]
     refine⟨⟨t4l+1,_,by omega,hk,hl3,rfl,?_,λq hq => ?_⟩,by omega⟩
     . have e:matL (t4l+1) 3 A=matL t4l 3 A++[rowL 3 (A t4l)]:=by simp[matL,List.range_succ]
       rw[e]
       exact(hC.imp (rowN_le (View.le_trans l3 (View.le_trans l4 (View.le_trans l5 (View.le_trans l6 (View.le_trans l7 M9))))))).append (t01.one rfl ⟨_,rfl,hrow⟩)
     . rw[List.take_add_one,u0j hk]at hq
       simp only[Option.toList_some,List.mem_append,List.mem_singleton]at hq
       rcases hq with hq|hq
       . exact hreal q hq
       . subst hq; exact hre
 have et:t4l=ms.length:=by simp at hge; have:t4l<=ms.length:=ht; omega
 subst et
 rw[List.take_length]at hreal
 have hall:ms.all (λm=>m.p.real)=true:=List.all_eq_true.2 hreal
 intro b4 V10 l10 hb4
 have hM:l04 5 numC V10 ⟨lstA b4 t4c,ms.length,t4c⟩ (matL ms.length 3 A):=G05 hL hb4 (hC.imp (rowN_le l10)) (by rw[a02])
 have L10:=View.le_trans L2 l10
 refine⟨⟨0,rfl,by omega,?_,λh=>absurd h (by omega)⟩,?_⟩
 . have e:rowL 9 (T0b ms 0 0)=List.replicate 9 Cq.zero:=by
     rw[<-x0g]; exact q06 λq _=>by unfold T0b; rw[if_neg (by omega)]
   rw[e]; exact y0t.zeros V10 9
 rintro⟨t48,o2'',o7⟩ V11 l11 ⟨a,ea,ha,hP,hdone⟩
 dsimp only at ea hP ⊢
 subst ea
 have L11:=View.le_trans L10 l11
 refine⟨λhlt=>⟨⟨a,0,[],rfl,by simp at hlt; omega,rfl,by omega,f03.nil,rfl,rfl,hP⟩,?_⟩,λhge => ?_⟩
 . have ha3:a<3:=by simp at hlt; omega
   rintro⟨t9l,t9c,t53,o2x,o7',o9⟩ V12 l12 ⟨a',t,lb,ea,_,et,ht,hLb,e9,hCb,hP'⟩
   dsimp only at ea et hLb e9 hCb hP' ⊢
   obtain rfl:a=a':=by omega
   subst et; subst e9
   have L12:=View.le_trans L11 l12
   refine⟨λhlt2 => ?_,λhge2 => ?_⟩
   . have hk:t9l<ms.length:=by simp at hlt2; omega
     obtain⟨g1,x,⟨m,rfl,hm⟩,_,hh,hs⟩:=k00.get (h.le L12) (t:=(t9l:Int)) (by omega) (z:=ms.getD t9l mkD) (by rw[Int.toNat_natCast]; exact u0j hk)
     rw[hl]at g1
     refine⟨g1,m,hh,hs,(H0y m.at_).mono λv V13 l13 hv=>⟨_,hv,⟨by omega,by omega⟩,?_⟩⟩
     obtain⟨y,hy1,hy2⟩:=l0w (hm.p.le l13) ha3
     refine⟨y,by rw[Int.toNat_natCast]; exact hy1,λb5 V14 l14 _ hb5 => ?_⟩
     have hnew:V14.has (some (Addr.mk b5 0 none)) y.val.cells.toList:=Q04 (cs:=y.val.cells.toList) (j:=0) hb5 (λi v hv=>by rw[Nat.zero_add]; exact hv) rfl
     have hyc:numC V14 y.val.cells.toList (fitB ms a t9l):=⟨y,rfl,hy2.le l14⟩
     refine⟨lb,_,hLb,hnew,rfl,oneN hyc,by unfold maxLen; omega,by omega,λc2 l6 hl6 => ?_⟩
     rw[i64w (by omega) (by omega)]
     have M14:=View.le_trans l13 l14
     refine⟨⟨a,t9l+1,_,rfl,ha3,by omega,hk,hl6,rfl,?_,hP'.imp (numC.le M14)⟩,by omega⟩
     rw[<-x0f]
     exact(hCb.imp (numC.le M14)).append (t01.one rfl hyc)
   . have et:t9l=ms.length:=by simp at hge2; have:t9l<=ms.length:=ht; omega
     subst et
     intro b6 V15 l15 hb6
     have hb:X0a V15 ⟨lstA b6 t9c,ms.length,t9c⟩ (rowL ms.length (fitB ms a)):=G05 hLb hb6 (hCb.imp (numC.le l15)) (by rw[m01])
     have M15:=View.le_trans l11 (View.le_trans l12 l15)
     have sB:∀r,r<ms.length->(fitB ms a r).sz<=1100:=λr hr=>n12 (hz _ (List.mem_of_getElem? (u0j hr))) a
     refine(j0w 1100 (hM.le numC.le M15) hb (by omega) hn32 (by omega) (λr k _ _=>Nat.le_trans (m12 hi r k) (by omega)) sB _ rfl (t0j hn32).1 (Nat.le_trans (t0j hn32).2 (by decide))).mono λv V16 l16 ⟨r6,h6⟩ => ?_
     have hiff:=M0z (n:=3) (w:=4) (by omega) (by omega) (by omega) (augN 3 (nrmA ms.length (fitA ms)) (nrmB ms.length (fitA ms) (fitB ms a)))
     rw[k12]at hiff
     cases hst:(elim numO 3 4 (augN 3 (nrmA ms.length (fitA ms)) (nrmB ms.length (fitA ms) (fitB ms a)))).2.2 with
     | some c =>
       rw[show(elim numO 3 (3+1) (augN 3 (nrmA ms.length A) (nrmB ms.length A (fitB ms a)))).2.2=some c from hst]at h6
       obtain⟨hv,hr⟩:=h6
       have hd:A0q ms=Cq.zero:=Classical.byContradiction λg=>by rw[hiff.2 g]at hst; simp at hst
       refine⟨r6,6,hv,λ_=>nil 6 V16 ?_ (by decide),λhf=>by simp at hf⟩
       unfold fitE
       rw[if_neg (by omega),if_pos hall,if_pos hd]
     | none =>
       rw[show(elim numO 3 (3+1) (augN 3 (nrmA ms.length A) (nrmB ms.length A (fitB ms a)))).2.2=none from hst]at h6
       obtain⟨hv,hx,hsz⟩:=h6
       have hx:X0a V16 r6 (rowL 3 (fitX ms a)):=hx
       have hxl:r6.len=3:=by have:=hx.len; rw[m01]at this; exact this
       have hd:A0q ms≠Cq.zero:=hiff.1 hst
       refine⟨r6,0,hv,λhf=>by simp at hf,λ_=>⟨⟨a,0,rfl,ha3,rfl,by omega,hP'.imp (numC.le (View.le_trans l15 l16))⟩,?_⟩⟩
       rintro⟨t77,o7''⟩ V17 l17 ⟨a',k,ea,_,ek,hk3,hP3⟩
       dsimp only at ea ek hP3 ⊢
       obtain rfl:a=a':=by omega
       subst ek
       rw[hxl]
       refine⟨λhlt3 => ?_,λhge3 => ?_⟩
       . have hk:k<3:=by simp at hlt3; omega
         obtain⟨d1,y,hh,hs,hy⟩:=(hx.le l17).get (t:=(k:Int)) (by omega) (by rw[m01,Int.toNat_natCast]; exact hk)
         rw[hxl]at d1
         have hyk:T00 V17 y (fitX ms a k):=by
          have e:nth (rowL 3 (fitX ms a)) (Int.toNat (k:Int))=fitX ms a k:=by rw[Int.toNat_natCast]; exact M11 hk _
          rw[e]at hy; exact hy
         refine⟨d1,y,hh,hs,⟨by omega,by omega⟩,⟨by omega,by omega⟩,?_,?_⟩
         . rw[hP3.length,m01,Int.toNat_natCast,Int.toNat_natCast]; omega
         . rw[i64w (by omega) (by omega)]
           refine⟨⟨a,k+1,rfl,ha3,by omega,by omega,?_⟩,by omega⟩
           have hset:=hP3.set0 (i:=3*k+a) (by rw[m01]; omega) (lenN y) (m10 hyk)
           rw[W0h]at hset
           rw[Int.toNat_natCast,Int.toNat_natCast]
           have e1:0+(3*k+a)*5=0+k*15+a*5:=by omega
           rw[e1]at hset
           rw[q06 (g:=T0b ms a (k+1)) (λq hq=>by
            unfold T0b
            by_cases e:q=3*k+a
            . subst e
              have m1:(3*k+a)%3=a:=by omega
              have m2:(3*k+a) / 3=k:=by omega
              rw[if_pos rfl,m1,m2,if_pos (by omega)]
            . rw[if_neg e]
              by_cases c:q%3<a\/(q%3=a/\q / 3<k)
              . rw[if_pos c,if_pos (by omega)]
              . rw[if_neg c,if_neg (by omega)])]at hset
           exact hset
       . have ek:k=3:=by simp at hge3; omega
         subst ek
         rw[i64w (by omega) (by omega)]
         refine⟨⟨a+1,by omega,by omega,?_,λ_=>⟨hd,λb hb k hk => ?_⟩⟩,by omega⟩
         . rw[q06 (g:=T0b ms a 3) (λq hq=>by
             unfold T0b
             by_cases c:q%3<a+1\/(q%3=a+1/\q / 3<0)
             . rw[if_pos c,if_pos (by omega)]
             . rw[if_neg c,if_neg (by omega)])]
           exact hP3
         . by_cases e:b<a
           . exact(hdone (by omega)).2 b e k hk
           . have:b=a:=by omega
             subst this
             have:=hsz k hk
             exact Nat.le_trans this (t0j hn32).2
 . have ea:a=3:=by simp at hge; omega
   subst ea
   obtain⟨hd,hsz⟩:=hdone (by omega)
   have hE:fitE ms=0:=by unfold fitE; rw[if_neg (by omega),if_pos hall,if_neg hd]
   have hg:∀k c,k<3->c<3->T0b ms 3 0 (3*k+c)=fitX ms c k:=λk c hk hc=>by
    unfold T0b
    have m1:(3*k+c)%3=c:=by omega
    have m2:(3*k+c) / 3=k:=by omega
    rw[m1,m2,if_pos (by omega)]
   obtain⟨a0,o0,p00,p01,p02⟩:=I0g hP 0 (by omega)
   obtain⟨a1,o1,p10,p11,p12⟩:=I0g hP 1 (by omega)
   obtain⟨a2,o2,p20,p21,p22⟩:=I0g hP 2 (by omega)
   refine⟨⟨by omega,by omega⟩,a0,o0,⟨by omega,by omega⟩,a1,o1,⟨by omega,by omega⟩,a2,o2,?_⟩
   refine(q0j a0).mono λv V18 l18 hv=>⟨_,hv,(q0j a1).mono λv V19 l19 hv=>⟨_,hv,(q0j a2).mono λv V20 l20 hv=>⟨_,hv,⟨⟨a0.e0,a0.e1,a0.e2⟩,⟨a1.e0,a1.e1,a1.e2⟩,⟨a2.e0,a2.e1,a2.e2⟩⟩,?_,?_,?_⟩⟩⟩
   . rw[hE]
   . rw[hE,if_pos rfl]
     have K:=View.le_trans l18 (View.le_trans l19 l20)
     have g:=λk c hk hc (x:NumV) (hx:T00 V11 x (T0b ms 3 0 (3*k+c)))=>(show T00 V20 x (fitX ms c k)from by rw[hg k c hk hc]at hx; exact hx.le K)
     exact⟨⟨g 0 0 (by omega) (by omega) _ p00,g 0 1 (by omega) (by omega) _ p01,g 0 2 (by omega) (by omega) _ p02⟩,⟨g 1 0 (by omega) (by omega) _ p10,g 1 1 (by omega) (by omega) _ p11,g 1 2 (by omega) (by omega) _ p12⟩,
      ⟨g 2 0 (by omega) (by omega) _ p20,g 2 1 (by omega) (by omega) _ p21,g 2 2 (by omega) (by omega) _ p22⟩⟩
   . intro _
     exact⟨⟨hsz 0 (by omega) 0 (by omega),hsz 1 (by omega) 0 (by omega),hsz 2 (by omega) 0 (by omega)⟩,⟨hsz 0 (by omega) 1 (by omega),hsz 1 (by omega) 1 (by omega),hsz 2 (by omega) 1 (by omega)⟩,⟨hsz 0 (by omega) 2 (by omega),hsz 1 (by omega) 2 (by omega),hsz 2 (by omega) 2 (by omega)⟩⟩
theorem C0e{V:View}{n c:Nat}{w:List Value}{f:Nat->Int}(h1:1<=n)(hn:n<=w.length)(hw:n<=2^60)(hf:∀p,p<n->w[p]?=some (.int .u8 (f p))) :
 e0g prog M08 (λb=>(Value.slice (some ⟨b,0,none⟩) n c::[]:List Value)) T_u8 w V λv l _=>v = .tuple #[]/\l.length=w.length/\l.take n=(w.take n).reverse:=by
 refine u08 0 n c w V _ (λ_ x _=>∃i j:Nat,x.t2=(i:Int)/\x.t3=(j:Int)/\j+i=n-1/\(i<=j+1)/\x.o0=revI w n i) (λ_ x _=>(x.t3-x.t2+2).toNat) ⟨⟨0,n-1,rfl,?_,by omega,by omega,(a0y w n).symm⟩,?_⟩
 . show i64.wrap ((n:Int)-1)=_
   rw[i64w (by omega) (by omega)]; omega
 rintro⟨t,u,o⟩ V1 l1 ⟨i,j,rfl,rfl,hij,hi,rfl⟩
 have gd:∀p,p<n->w.getD p undef = .int .u8 (f p):=λp hp=>by simp[List.getD,hf p hp]
 dsimp only
 refine⟨λhlt => ?_,λhge => ?_⟩
 . simp only[decide_eq_true_eq]at hlt
   have hij':i<j:=by omega
   rw[i64w (n:=(i:Int)+1) (by omega) (by omega),i64w (n:=(j:Int)-1) (by omega) (by omega)]
   simp only[Int.toNat_natCast,Nat.mul_one,Nat.zero_add]
   refine⟨⟨by omega,by omega⟩,f j,?_,⟨by omega,by omega⟩,f i,?_,⟨by omega,by omega⟩,by rw[e06]; omega,⟨by omega,by omega⟩,by rw[List.length_set,e06]; omega,⟨i+1,j-1,by omega,by omega,by omega,by omega,?_⟩,by omega⟩
   . rw[F0t (by omega) (by omega) (by omega),gd j (by omega)]
   . rw[F0t (by omega) (by omega) (by omega),gd i (by omega)]
   . have:=b0y (o:=w) hn hij hij'
     rw[gd i (by omega),gd j (by omega)]at this
     exact this
 . simp only[decide_eq_false_iff_not]at hge
   exact⟨rfl,e06 _ _ _,O0z hn (by omega)⟩
theorem u10{l:List Nat}{p:Nat}(h:p<l.length):(digC l)[p]?=some (.int .u8 ((48+l.getD p 0:Nat):Int)):=by simp[digC,h]
theorem m14{r:Nat}:u8.wrap (u32.wrap (48+(Int.tmod (r:Int) 10)))=((48+r%10:Nat):Int):=by
 rw[show Int.tmod (r:Int) 10=((r%10:Nat):Int)from(Int.ofNat_tmod r 10).symm,u32w (by omega) (by omega),IntWalk.u8_in _ ⟨by omega,by omega⟩]; omega
theorem u32q{r:Nat}(h:r<4294967296):u32.wrap (Int.tdiv (r:Int) 10)=((r / 10:Nat):Int):=by
 rw[show Int.tdiv (r:Int) 10=((r / 10:Nat):Int)from(Int.ofNat_tdiv r 10).symm,u32w (by omega) (by omega)]
theorem oneC(n:Int):∀v∈[Value.int .u8 n],Value.oneCell' v=true:=by intro v hv; simp at hv; subst hv; rfl
theorem K09{V:View}{s:Sl}{N:Nat}(h:o00 V s N)(hb:bl N<=2^42) :
 a00 prog Q0o #[s.v] V λv _=>v = .string (decS N):=by
 have hz:=h.len_zero
 have hlow:=A0l N
 refine P0m s V _
  (λ_ x V'=>∃(X:Nat) (dl:List Nat),o00 V' x.t0 X/\X<=N/\f03 1 x.t3l x.t3c x.o3 (digC dl)/\x.t3l=dl.length/\low N=dl++low X) (λ_ x V'=>Y0d V' x.t0)
  (λc x V'=>∃(q r k:Nat) (dl:List Nat),o00 V' c.t0 q/\q<=N/\x.t4=(r:Int)/\x.t5=(k:Int)/\k<=9/\r<10^(9-k)/\f03 1 x.t3l x.t3c x.o3 (digC dl)/\x.t3l=dl.length/\low N=dl++low (q*10^(9-k)+r)) (λ_ x _=>(9-x.t5).toNat)
  ⟨λh0 => ?_,λh0=>⟨⟨N,[],h,Nat.le_refl _,f03.nil,rfl,rfl⟩,?_⟩⟩
 . have:s.len=0:=by have:(s.len:Int)=0:=(by simpa using h0); omega
   rw[hz.1 this,X0x]
 have hN0:N≠0:=by
  intro e; rw[<-hz]at e; rw[e]at h0; simp at h0
 rintro⟨t0,n,c,o⟩ V1 l1 ⟨X,dl,hX,hXN,hlo,hn,hval⟩
 dsimp only at hX hlo hn ⊢
 have hXz:=hX.len_zero
 refine⟨λhp => ?_,λhp => ?_⟩
 . simp only[gt_iff_lt,decide_eq_true_eq]at hp
   have hX0:X≠0:=λe=>by rw[<-hXz]at e; omega
   have hbX:bl X<=2^42:=Nat.le_trans (x0a hXN) hb
   refine(b0e (d:=1000000000) hX (j09 (by omega)) (by omega) (by omega)).mono λv V2 l2 ⟨r1,hv,h1⟩=>⟨r1,_,hv,⟨X / 1000000000,X%1000000000,0,dl,h1,Nat.le_trans (Nat.div_le_self _ _) hXN,rfl,rfl,by omega,?_,hlo,hn,?_⟩,?_⟩
   . exact Nat.mod_lt _ (by omega)
   . have:X / 1000000000*10^(9-0)+X%1000000000=X:=by
       rw[show(10:Nat)^(9-0)=1000000000 by decide]; omega
     rw[this]; exact hval
   rintro⟨n3,c3,r3,k3,o3⟩ V3 l3 ⟨q,r,k,dl3,hq,hqN,rfl,rfl,hk,hr,hlo3,hn3,hval3⟩
   dsimp only at hq hlo3 hn3 ⊢
   have hqe:=hq.inj (h1.le l3)
   have hlt9:r<1000000000:=Nat.lt_of_lt_of_le hr (by
    have:(10:Nat)^(9-k)<=10^9:=Nat.pow_le_pow_right (by omega) (by omega)
    exact Nat.le_trans this (by decide))
   have hl3:dl3.length<=2^42:=by
    have:=congrArg List.length hval3
    rw[List.length_append]at this; omega
   have hqz:=hq.len_zero
   have step:(q≠0\/r≠0)->k<9->∀(b1:Nat) (V4:View),V3.le V4->View.Fin V4->V4 b1=some #[.int .u8 (u8.wrap (u32.wrap (48+(Int.tmod (r:Int) 10))))] ->
    ∃(l1:List Value) (l2:List Value),f03 1 n3 c3 o3 l1/\View.has V4 (some (Addr.mk b1 0 none)) l2/\List.length l2=1*1/\(∀v∈l2,Value.oneCell' v=true)/\n3+1<=maxLen/\(n3+1)*1<=140737488355328 /\
    ∀(c1:Nat) (l3:List Value),f03 1 (n3+1) c1 l3 (l1++l2) ->
    (∃(q' r' k':Nat) (dl:List Nat),o00 V4 r1 q'/\q'<=N/\(u32.wrap (Int.tdiv (r:Int) 10))=(r':Int)/\(i64.wrap ((k:Int)+1))=(k':Int)/\k'<=9/\r'<10^(9-k')/\f03 1 (n3+1) c1 l3 (digC dl)/\n3+1=dl.length/\low N=dl++low (q'*10^(9-k')+r'))/\(9-(i64.wrap ((k:Int)+1))).toNat<(9-(k:Int)).toNat:=by
    intro hne hk9 b1 V4 l4 _ hb1
    rw[m14]at hb1
    have hrr:r / 10<10^(9-(k+1)):=by
     have:10^(9-k)=10^(9-(k+1))*10:=by rw[<-Nat.pow_succ]; congr 1; omega
     omega
    have hst:=N0z (q:=q) (r:=r) (k:=9-(k+1)) hne
    rw[show 9-(k+1)+1=9-k by omega]at hst
    refine⟨digC dl3,[.int .u8 ((48+r%10:Nat):Int)],hlo3,t0y hb1,rfl,oneC _,Nat.le_trans (show n3+1<=2^43 by omega) (by decide),by omega,λc1 l3' hl3'=>⟨⟨q,r / 10,k+1,dl3++[r%10],hq.le l4,hqN,u32q (by omega),by rw[i64w (by omega) (by omega)]; omega,hk9,hrr,?_,by simp[hn3],?_⟩,by rw[i64w (by omega) (by omega)]; omega⟩⟩
    . rw[<-H0s]; exact hl3'
    . rw[hval3,hst]; simp
   have stop:(k=9\/q=0/\r=0)->(∃(X:Nat) (dl:List Nat),o00 V3 r1 X/\X<=N/\f03 1 n3 c3 o3 (digC dl)/\n3=dl.length/\low N=dl++low X)/\Y0d V3 r1<Y0d V1 t0:=by
    intro hs
    refine⟨⟨q,dl3,hq,hqN,hlo3,hn3,?_⟩,?_⟩
    . rcases hs with rfl|⟨rfl,rfl⟩
      . have:r=0:=by simp at hr; omega
        subst this
        simpa using hval3
      . simpa using hval3
    . rw[A08 hq,A08 hX,hqe]
      omega
   refine⟨λhk9=>⟨λhq1=>⟨λ_=>step (.inl ?_) (by have:(k:Int)<9:=(by simpa using hk9); omega),λh=>absurd h (by simp)⟩,λhq1=>⟨λhr1=>step (.inr ?_) (by have:(k:Int)<9:=(by simpa using hk9); omega),λhr1=>stop (.inr ⟨?_,?_⟩)⟩⟩,λhk9=>⟨λh=>absurd h (by simp),λ_=>stop (.inl ?_)⟩⟩
   . simp only[gt_iff_lt,decide_eq_true_eq]at hq1
     intro e; rw[<-hqz]at e; omega
   . simp only[gt_iff_lt,decide_eq_true_eq]at hr1; omega
   . simp only[gt_iff_lt,decide_eq_false_iff_not]at hq1; exact hqz.1 (by omega)
   . simp only[gt_iff_lt,decide_eq_false_iff_not]at hr1; omega
   . simp only[decide_eq_false_iff_not]at hk9; omega
 . simp only[gt_iff_lt,decide_eq_false_iff_not]at hp
   have hX0:X=0:=hXz.1 (by omega)
   rw[hX0,E0n,List.append_nil]at hval
   subst hval
   have hd0:low N≠[]:=by rw[F0n hN0]; simp
   have hl0:0<(low N).length:=List.length_pos_iff.2 hd0
   have hle:=hlo.le
   have htk:=hlo.take
   have hol:=hlo.len
   rw[Nat.mul_one]at htk hol
   have htl:n<=o.length:=by omega
   have g:∀p,p<n->o[p]?=some (.int .u8 (((48+(low N).getD p 0:Nat):Nat):Int)):=by
    intro p hp'
    rw[<-List.getElem?_take_of_lt hp',htk]
    exact u10 (by omega)
   refine⟨⟨by intro e; rw[e]at htl; simp at htl; omega,⟨by omega,trivial⟩,trivial⟩,?_⟩
   refine(C0e (c:=c) (f:=λp=>((48+(low N).getD p 0:Nat):Int)) (by omega) htl (by omega) g).mono λv l10 V7 l7 ⟨hv,hl10,ht10⟩=>⟨hv,λb4 V8 l8 hb4 => ?_⟩
   refine⟨decL N,?_,by rw[d0j hN0]; omega,rfl,rfl⟩
   rw[htk,P0z hN0]at ht10
   intro j v hj
   have hjl:j<n:=by
    rcases Nat.lt_or_ge j n with h|h
    . exact h
    . rw[List.getElem?_eq_none (by simp[d0j hN0]; omega)]at hj; simp at hj
   rw[s09 hb4]
   rw[<-ht10,List.getElem?_take_of_lt hjl]at hj
   simpa using hj
def L09(a:Int)(d:Nat):Cq:=⟨(a:Rat) / (d:Rat),0⟩
theorem B0q{a:Int}{d:Nat}(h:d≠0):Rep (L09 a d) a 0 d:=⟨h,rfl,by show(0:Rat)=_; rw[Rat.div_def]; simp⟩
theorem M10(z:Cq):(⟨z.re,0⟩:Cq)=L09 z.A z.D:=Cq.ext' z.canon.rep.re rfl
theorem N10(z:Cq):(⟨z.im,0⟩:Cq)=L09 z.B z.D:=Cq.ext' z.canon.rep.im rfl
theorem L0y{a:Int}{d:Nat}(h:d≠0):(L09 a d).A.natAbs=a.natAbs / Nat.gcd a.natAbs d/\(L09 a d).D=d / Nat.gcd a.natAbs d/\((L09 a d).A<0↔a<0):=by
 obtain⟨e1,e2,e3⟩:=(B0q (a:=a) h).eqs
 have hg:gcd3 a 0 d=Nat.gcd a.natAbs d:=by simp[gcd3]
 have d1:=E0c a 0 d
 have k1:=p06 d1
 have k2:=I09 d1 (T0h a 0 h)
 rw[e1,e3,k1,hg]
 rw[hg]at k2
 exact⟨rfl,rfl,by simpa using k2⟩
theorem S0t{a:Int}{d:Nat}(h:d≠0):bl (L09 a d).A.natAbs<=bl a.natAbs/\bl (L09 a d).D<=bl d:=by
 obtain⟨e1,e2,_⟩:=L0y (a:=a) h
 rw[e1,e2]
 exact⟨x0a (Nat.div_le_self _ _),x0a (Nat.div_le_self _ _)⟩
def ratT(a:Int)(d:Nat):ByteArray:=ratS (L09 a d).A (L09 a d).D
theorem J0b{V:View}{x:WhV}{s:Sl}{a:Int}{d:Nat}(hx:d02 V x a)(hs:o00 V s d)(hd:d≠0)(ha:bl a.natAbs<=2^41)(hdb:bl d<=2^41) :
 a00 prog X0u #[x.val,s.v] V λv _=>v = .string (ratT a d):=by
 obtain⟨b1,b2⟩:=S0t (a:=a) hd
 have s1:=B0f (L09 a d).A.natAbs
 have s2:=B0f (L09 a d).D
 have hmax:i64.max=9223372036854775807:=by decide
 have z1:(ByteArray.mk #[45]).size=1:=rfl
 have z2:(ByteArray.mk #[47]).size=1:=rfl
 refine j0s x s V _ ((I03 hx (d02.zero V) hs (B0q hd) (j09 (by omega)) (by rw[show Int.natAbs 0=0 from rfl,w06]; omega) (j09 (by omega))).mono λv V1 l1 ⟨r,hv,hr⟩=>⟨r,hv,?_⟩)
 have hu:=hr.under
 have hn:=hr.re.1
 have hD:=(L09 a d).D_pos
 refine(K09 hr.re.2 (by omega)).mono λv V2 l2 hv=>⟨_,hv,λhneg=>⟨by rw[z1,hmax]; omega,λhul => ?_,λhul => ?_⟩,λhneg=>⟨λhul => ?_,λhul => ?_⟩⟩
 . simp only[gt_iff_lt,decide_eq_true_eq]at hul
   have h1:(L09 a d).D≠1:=λe=>by rw[e,if_pos rfl]at hu; have:=hu.len_zero.2 rfl; omega
   rw[if_neg h1]at hu
   refine(K09 (hu.le l2) (by omega)).mono λv V3 l3 hv=>⟨_,hv,by rw[z2,hmax]; omega,by rw[t09,t09,z1,z2,hmax]; omega,?_⟩
   unfold ratT ratS
   rw[hneg]at hn
   have hn:(L09 a d).A<0:=of_decide_eq_true hn.symm
   simp only[hn,h1,if_true,if_false]; rfl
 . simp only[gt_iff_lt,decide_eq_false_iff_not]at hul
   have h1:(L09 a d).D=1:=by
    have:=hu.len_zero.1 (by omega)
    split at this<;>omega
   unfold ratT ratS
   rw[hneg]at hn
   have hn:(L09 a d).A<0:=of_decide_eq_true hn.symm
   simp only[hn,h1,if_true]; rfl
 . simp only[gt_iff_lt,decide_eq_true_eq]at hul
   have h1:(L09 a d).D≠1:=λe=>by rw[e,if_pos rfl]at hu; have:=hu.len_zero.2 rfl; omega
   rw[if_neg h1]at hu
   refine(K09 (hu.le l2) (by omega)).mono λv V3 l3 hv=>⟨_,hv,by rw[z2,hmax]; omega,by rw[t09,z2,hmax]; omega,?_⟩
   unfold ratT ratS
   rw[hneg]at hn
   have hn:¬(L09 a d).A<0:=of_decide_eq_false hn.symm
   simp only[hn,h1,if_false]; rfl
 . simp only[gt_iff_lt,decide_eq_false_iff_not]at hul
   have h1:(L09 a d).D=1:=by
    have:=hu.len_zero.1 (by omega)
    split at this<;>omega
   unfold ratT ratS
   rw[hneg]at hn
   have hn:¬(L09 a d).A<0:=of_decide_eq_false hn.symm
   simp only[hn,h1,if_false,if_true]
theorem P13(z:Cq):cqS z=if z.B=0 then ratT z.A z.D else if z.A=0 then ratT z.B z.D++strI else if z.B<0 then ratT z.A z.D++(ratT z.B z.D++strI)else ratT z.A z.D++(Y0x++(ratT z.B z.D++strI)):=by
 unfold cqS
 rw[M10,N10]; rfl
theorem C0q{a:Int}{d:Nat}(h:d≠0):(ratT a d).size<=bl a.natAbs+bl d+4:=by
 have h1:=Z0x (L09 a d).A (L09 a d).D
 obtain⟨b1,b2⟩:=S0t (a:=a) h
 unfold ratT; omega
theorem lenT(n:Nat):(((n:Int)==0)=true↔n=0):=by simp
theorem Q0f{V:View}{x:NumV}{z:Cq}(hx:T00 V x z)(hz:z.sz<=2^40):a00 prog I0u #[x.val] V λv _=>v = .string (cqS z):=by
 have zA:=z.szA; have zB:=z.szB; have zD:=z.szD
 have hD:=z.D_pos
 have t1:=C0q (a:=z.A) hD
 have t2:=C0q (a:=z.B) hD
 have hmax:i64.max=9223372036854775807:=by decide
 have z1:(ByteArray.mk #[105]).size=1:=rfl
 have z2:(ByteArray.mk #[43]).size=1:=rfl
 rw[P13]
 refine k0s x V _ ((J02 hx).mono λv V1 l1 hv=>⟨_,hv,λhr => ?_,λhr => ?_⟩)
 . have hB:z.B=0:=by
     rw[Cq.B_zero]; simpa using hr
   refine(B01 (hx.le l1)).mono λv V2 l2 ⟨r,hv,h2⟩=>⟨r,hv,?_⟩
   refine(J0b (hx.re.le (View.le_trans l1 l2)) h2 hD (by omega) (by omega)).mono λv V3 l3 hv=>⟨_,hv,?_⟩
   rw[if_pos hB]
 . have hB:¬z.B=0:=by
     rw[Cq.B_zero]; simpa using hr
   rw[if_neg hB]
   refine(B01 (hx.le l1)).mono λv V2 l2 ⟨r,hv,h2⟩=>⟨r,hv,?_⟩
   refine(J0b (hx.im.le (View.le_trans l1 l2)) h2 hD (by omega) (by omega)).mono λv V3 l3 hv=>⟨_,hv,by rw[z1,hmax]; omega,λhA => ?_,λhA=>⟨λhn=>⟨by rw[t09,z1,z2,hmax]; omega,?_⟩,λhn => ?_⟩⟩
   . have hA:z.A=0:=by
       have:=(lenT _).1 hA
       have:=hx.re.2.len_zero.1 this; omega
     rw[if_pos hA]; rfl
   all_goals
    have hA:¬z.A=0:=by
     intro e
     have:=hx.re.2.len_zero.2 (by omega)
     rw[this]at hA; simp at hA
    rw[if_neg hA]
    have hneg:=hx.im.1
    refine(B01 (hx.le (View.le_trans l1 (View.le_trans l2 l3)))).mono λv V4 l4 ⟨r4,hv,h4⟩=>⟨r4,hv,?_⟩
    refine(J0b (hx.re.le (View.le_trans l1 (View.le_trans l2 (View.le_trans l3 l4)))) h4 hD (by omega) (by omega)).mono λv V5 l5 hv=>⟨_,hv,by simp only[t09,z1,z2]; rw[hmax]; omega,?_⟩
   . have hn:¬z.B<0:=by
       have:x.im.neg=false:=by simpa using hn
       rw[this]at hneg; exact of_decide_eq_false hneg.symm
     rw[if_neg hn]; rfl
   . have hn:z.B<0:=by
       have:x.im.neg=true:=by simpa using hn
       rw[this]at hneg; exact of_decide_eq_true hneg.symm
     rw[if_pos hn]; rfl
theorem fd32(z:Nat):Int.fdiv (z:Int) (2^(min (Int.toNat 32) (u64.bits)))=((z / 4294967296:Nat):Int):=by
 have e2:(2:Int)^(min (Int.toNat 32) (u64.bits))=4294967296:=by decide
 rw[e2,Int.fdiv_eq_ediv_of_nonneg _ (by omega)]; omega
theorem fd63(z:Nat):Int.fdiv (z:Int) (2^(min (Int.toNat 63) (u64.bits)))=((z / 9223372036854775808:Nat):Int):=by
 have e2:(2:Int)^(min (Int.toNat 63) (u64.bits))=9223372036854775808:=by decide
 rw[e2,Int.fdiv_eq_ediv_of_nonneg _ (by omega)]; omega
theorem u32n(z:Nat):u32.wrap (z:Int)=((z%4294967296:Nat):Int):=by rw[u32m]; omega
theorem u64n{z:Nat}(h:z<18446744073709551616):u64.wrap (z:Int)=(z:Int):=u64w (by omega) (by omega)
theorem M0y(c:Prop) [Decidable c](a:Option Addr):(if c then a else Option.map (λq=>Addr.add q (Int.toNat 0*1)) a)=a:=by
 have e:(λq:Addr=>Addr.add q (Int.toNat 0*1))=id:=by funext q; simp[Addr.add]
 rw[e]; simp
theorem J03{V:View}{s:Sl}{l:List Nat}(h:A01 V s l)(hs:l.length<=2^50) :
 a00 prog K0r #[s.v] V λv V'=>∃r:Sl,v=r.v/\o00 V' r (wval l):=by
 have hlen:=h.len
 refine A0p s V _ (λ_ x _=>0<=x.t3/\x.t3<=s.len/\∀d∈l.drop x.t3.toNat,d=0) (λ_ x _=>x.t3.toNat) ⟨⟨Int.natCast_nonneg _,Int.le_refl _,?_⟩,?_⟩
 . intro d hd
   simp only[Int.toNat_natCast,hlen,List.drop_length]at hd
   simp at hd
 rintro⟨t⟩ V1 hle ⟨h0,h1,h2⟩
 simp only at h0 h1 h2 ⊢
 have hcap:=h.cap
 have out:t=0\/l.getD (t.toNat-1) 0≠0->o00 V1 (Sl.mk (if s.cap=Int.toNat 0 then s.a else Option.map (λq=>Addr.add q (Int.toNat 0*1)) s.a) (Int.toNat t-Int.toNat 0) (s.cap-Int.toNat 0)) (wval l):=by
  intro hz
  have hw:wval l=wval (l.take t.toNat):=by
   rw[p0f l t.toNat,f0h h2]; omega
  rw[hw,M0y]
  refine a0r ⟨?_,?_,?_,h.wb.take _⟩ ?_
  . intro i d hi
    have hi':i<t.toNat:=by
     rcases Nat.lt_or_ge i t.toNat with h|h
     . exact h
     . rw[List.getElem?_eq_none (by simp; omega)]at hi; simp at hi
    rw[List.getElem?_take_of_lt hi']at hi
    exact Q02 hle (h.load i d hi)
  . simp; omega
  . simp only[Int.toNat_zero]; omega
  . intro d hd
    rcases hz with rfl|hz
    . simp at hd
    . have h3:t.toNat≠0:=by
        intro e; rw[e]at hd; simp at hd
      rw[List.getLast?_eq_getElem?]at hd
      have h4:(l.take t.toNat).length=t.toNat:=by simp; omega
      rw[h4,List.getElem?_take_of_lt (by omega)]at hd
      simp only[List.getD,hd,Option.getD_some]at hz
      exact hz
 refine⟨λhp => ?_,λhp=>⟨by simp,λ_=>⟨⟨by omega,by omega,by omega⟩,_,rfl,out (.inl ?_)⟩⟩⟩
 . simp only[decide_eq_true_eq]at hp
   rw[i64w (by omega) (by omega)]
   refine⟨⟨by omega,by omega,h.isSome (by omega)⟩,_,(h.le hle).get (by omega) (by omega),λhz => ?_,λhz=>⟨⟨by omega,by omega,by omega⟩,_,rfl,out (.inr ?_)⟩⟩
   . simp only[beq_iff_eq]at hz
     refine⟨⟨by omega,by omega,λd hd => ?_⟩,by omega⟩
     have hlt:(t-1).toNat<l.length:=by omega
     rw[List.drop_eq_getElem_cons hlt]at hd
     rcases List.mem_cons.1 hd with rfl|hd
     . simp only[List.getD,List.getElem?_eq_getElem hlt,Option.getD_some]at hz; omega
     . exact h2 d (by rw[show(t-1).toNat+1=t.toNat by omega]at hd; exact hd)
   . simp only[beq_eq_false_iff_ne,ne_eq]at hz
     rw[show t.toNat-1=(t-1).toNat by omega]
     intro e; rw[e]at hz; exact hz rfl
 . simp only[decide_eq_false_iff_not]at hp; omega
theorem i06{V:View}{n:Int}(h0:0<=n)(h1:n<=18446744073709551615) :
 a00 prog U0o #[.int .u64 n] V λv V'=>∃r:Sl,v=r.v/\o00 V' r n.toNat:=by
 refine d0n n V _ λb V1 hle _ hb => ?_
 obtain⟨m,rfl⟩:∃m:Nat,n=m:=⟨n.toNat,by omega⟩
 rw[fd32,u32n,u32n,Nat.mod_eq_of_lt (show m / 4294967296<4294967296 by omega)]at hb
 have hw:A01 V1 (Sl.mk (some (Addr.mk b 0 none)) 2 2) [m%4294967296,m / 4294967296] :=
  A01.of_block (by rw[hb]; rfl) rfl (by omega) (by intro d hd; simp at hd; omega)
 refine(J03 hw (by simp)).mono λv V' _ ⟨r,hv,hr⟩=>⟨r,hv,_,rfl,?_⟩
 have:wval [m%4294967296,m / 4294967296]=(m:Int).toNat:=by simp[wval]; omega
 rw[this]at hr; exact hr
theorem U0b{V:View}{s t:Sl}{a b:Nat}(hs:o00 V s a)(ht:o00 V t b)(hb:wn a<=2^50) :
 a00 prog z0m #[s.v,t.v] V λv _=>v = .int .i64 (if a<b then -1 else if a=b then 0 else 1):=by
 have h1:=hs.len
 have h2:=ht.len
 simp only[wn]at hb
 refine u0k s t V _ (λ_ x _ => -1<=x.t5/\x.t5<s.len/\(dig a).drop (x.t5+1).toNat=(dig b).drop (x.t5+1).toNat) (λ_ x _=>(x.t5+1).toNat) ⟨λhne=>⟨λhlt => ?_,λhlt => ?_⟩,λhe=>⟨?_,?_⟩⟩
 . have:=w0d (a:=a) (b:=b) (by simpa [h1,h2]using hlt)
   simp[this]
 . have hne:¬(s.len:Int)=t.len:=by simpa using hne
   have hlt:¬s.len<t.len:=by simpa using hlt
   have:=w0d (a:=b) (b:=a) (by omega)
   rw[if_neg (by omega),if_neg (by omega)]
 . have he:(s.len:Int)=t.len:=by simpa using he
   rw[i64w (by omega) (by omega)]
   refine⟨?_,?_,?_⟩
   . show(-1:Int)<=s.len-1; omega
   . show(s.len:Int)-1<s.len; omega
   . rw[List.drop_eq_nil_of_le,List.drop_eq_nil_of_le]<;>simp<;>omega
 . have he:(s.len:Int)=t.len:=by simpa using he
   rintro⟨i⟩ V1 hle ⟨i0,i1,hd⟩
   simp only at i0 i1 hd ⊢
   refine⟨λhp => ?_,λhp => ?_⟩
   . simp only[ge_iff_le,decide_eq_true_eq]at hp
     refine⟨⟨by omega,by omega,hs.isSome (by omega)⟩,_,(hs.le hle).get (by omega) (by omega),⟨by omega,by omega,ht.isSome (by omega)⟩,_,(ht.le hle).get (by omega) (by omega),λhne =>
      ⟨⟨by omega,by omega,hs.isSome (by omega)⟩,_,(hs.le hle).get (by omega) (by omega),⟨by omega,by omega,ht.isSome (by omega)⟩,_,(ht.le hle).get (by omega) (by omega),λhlt => ?_,λhge => ?_⟩,λheq => ?_⟩
     . have hlt:(dig a).getD i.toNat 0<(dig b).getD i.toNat 0:=by simpa using hlt
       have:=x0d (X03 a) (by omega) (i:=i.toNat) (by omega) (by rw[show i.toNat+1=(i+1).toNat by omega]; exact hd) hlt
       rw[l01,l01]at this
       simp[this]
     . have hne:¬(dig a).getD i.toNat 0=(dig b).getD i.toNat 0:=by
         intro e; rw[e]at hne; simp at hne
       have hge:¬(dig a).getD i.toNat 0<(dig b).getD i.toNat 0:=by simpa using hge
       have:=x0d (X03 b) (by omega) (i:=i.toNat) (by omega) (by rw[show i.toNat+1=(i+1).toNat by omega]; exact hd.symm) (by omega:(dig b).getD i.toNat 0<(dig a).getD i.toNat 0)
       rw[l01,l01]at this
       rw[if_neg (by omega),if_neg (by omega)]
     . have heq:(((dig a).getD i.toNat 0:Nat):Int)=(((dig b).getD i.toNat 0:Nat):Int):=by simpa using heq
       rw[i64w (by omega) (by omega)]
       refine⟨⟨by show(-1:Int)<=i-1; omega,by show i-1<(s.len:Int); omega,?_⟩,by show(i-1+1).toNat<(i+1).toNat; omega⟩
       have e:(i-1+1).toNat=i.toNat:=by omega
       show(dig a).drop (i-1+1).toNat=(dig b).drop (i-1+1).toNat
       rw[e,List.drop_eq_getElem_cons (by omega:i.toNat<(dig a).length),List.drop_eq_getElem_cons (by omega:i.toNat<(dig b).length)]
       have e2:i.toNat+1=(i+1).toNat:=by omega
       rw[e2,hd]
       congr 1
       simp only[List.getD,List.getElem?_eq_getElem (by omega:i.toNat<(dig a).length),List.getElem?_eq_getElem (by omega:i.toNat<(dig b).length),Option.getD_some]at heq
       omega
   . simp only[ge_iff_le,decide_eq_false_iff_not]at hp
     have e:(i+1).toNat=0:=by omega
     rw[e]at hd
     have:=p0y (by simpa using hd)
     subst this
     simp
theorem W0b{V:View}{s t:Sl}{a b:Nat}(hs:o00 V s a)(ht:o00 V t b)(ha:wn a<=2^45)(hb:wn b<=2^45) :
 a00 prog W0e #[s.v,t.v] V λv V'=>∃r:Sl,v=r.v/\o00 V' r (a+b):=by
 refine w0k s t V _ (λ_ x V'=>∃a' b',o00 V' x.t0 a'/\o00 V' x.t1 b'/\a'+b'=a+b/\wn a'<=2^45/\x.t1.len<=x.t0.len)
  (λc x V'=>∃a' b' l k,o00 V' c.t0 a'/\o00 V' c.t1 b'/\a'+b'=a+b/\c.t1.len<=c.t0.len/\x.o19=wv l/\WB l/\l.length=c.t0.len+1/\x.t6=(k:Nat)/\k<=1/\0<=x.t7/\x.t7<=c.t0.len /\
    wval (l.take x.t7.toNat)+k*4294967296^x.t7.toNat=wval ((dig a').take x.t7.toNat)+wval ((dig b').take x.t7.toNat))
  (λc x _=>(c.t0.len-x.t7).toNat) ⟨⟨λh=>⟨b,a,ht,hs,by omega,hb,?_⟩,λh=>⟨a,b,hs,ht,rfl,ha,?_⟩⟩,?_⟩
 . have:s.len<t.len:=by simpa using h
   exact Nat.le_of_lt this
 . have:¬s.len<t.len:=by simpa using h
   exact Nat.le_of_not_lt this
 rintro⟨x,y⟩ V1 hle ⟨a',b',hx,hy,hab,hwa,hlen⟩
 simp only at hx hy hlen ⊢
 have hxl:=hx.len
 have hyl:=hy.len
 simp only[wn]at hwa
 rw[i64w (n:=(x.len:Int)+1) (by omega) (by omega)]
 refine⟨⟨by omega,by omega,by omega,by omega⟩,⟨a',b',List.replicate (x.len+1) 0,0,hx,hy,hab,hlen,?_,WB.zeros _,by simp,rfl,by omega,Int.le_refl _,by show(0:Int)<=x.len; omega,by simp[wval]⟩,?_⟩
 . show(List.replicate (Int.toNat ((x.len:Int)+1)) [Value.int .u32 0]).flatten=_
   rw[show Int.toNat ((x.len:Int)+1)=x.len+1 by omega,L04]
 rintro⟨k,i,o⟩ V2 hle2 ⟨a2,b2,l,k',hx2,hy2,hab2,_,ho,hwb,hl,hk,hk1,hi0,hi1,hval⟩
 simp only at ho hk hi0 hi1 hval hx2 hy2 hl ⊢
 obtain rfl:=hx2.inj (hx.le hle2)
 obtain rfl:=hy2.inj (hy.le hle2)
 subst hk
 refine⟨λhp => ?_,λhp => ?_⟩
 . simp only[decide_eq_true_eq]at hp
   have step:∀(z:Nat),z=(dig a2).getD i.toNat 0+(dig b2).getD i.toNat 0+k'->z<8589934592 ->
    (∃a' b' l k,o00 V2 x a'/\o00 V2 y b'/\a'+b'=a+b/\y.len<=x.len/\List.set o (0+Int.toNat i*1) (.int .u32 ((z%4294967296:Nat):Int))=wv l/\WB l/\l.length=x.len+1/\((z / 4294967296:Nat):Int)=(k:Nat)/\k<=1/\0<=i+1/\i+1<=x.len /\
      wval (l.take (i+1).toNat)+k*4294967296^(i+1).toNat=wval ((dig a').take (i+1).toNat)+wval ((dig b').take (i+1).toNat)):=by
    intro z hz hlt
    refine⟨a2,b2,l.set i.toNat (z%4294967296),z / 4294967296,hx2,hy2,hab,hlen,?_,hwb.set (by omega),by simpa using hl,rfl,by omega,by omega,by omega,?_⟩
    . rw[ho,show 0+Int.toNat i*1=i.toNat by omega,N04]
    . rw[show(i+1).toNat=i.toNat+1 by omega,o06 (by omega),C00,C00,Nat.pow_succ]
      have hrc:z%4294967296+z / 4294967296*4294967296=(dig a2).getD i.toNat 0+(dig b2).getD i.toNat 0+k':=by omega
      have:=congrArg (·*4294967296^i.toNat) hrc
      simp only[Nat.add_mul]at this
      grind
   have w1:=hx2.getD_lt i.toNat
   have w2:=hy2.getD_lt i.toNat
   rw[i64w (n:=i+1) (by omega) (by omega)]
   refine⟨⟨by omega,by omega,hx.isSome (by omega)⟩,_,hx2.get (by omega) (by omega),λhp2 => ?_,λhp2 => ?_⟩
   . simp only[decide_eq_true_eq]at hp2
     refine⟨⟨by omega,by omega,hy.isSome (by omega)⟩,_,hy2.get (by omega) (by omega),⟨by omega,by omega⟩,by rw[ho,D00]; omega,?_⟩
     rw[u64n (z:=(dig a2).getD i.toNat 0) (by omega),u64n (z:=(dig b2).getD i.toNat 0) (by omega),<-Int.natCast_add,u64n (by omega),<-Int.natCast_add,u64n (by omega),fd32,u32n]
     have g:=step ((dig a2).getD i.toNat 0+k'+(dig b2).getD i.toNat 0) (by omega) (by omega)
     exact⟨g,by show((x.len:Int)-(i+1)).toNat<((x.len:Int)-i).toNat; omega⟩
   . simp only[decide_eq_false_iff_not]at hp2
     have w2:(dig b2).getD i.toNat 0=0:=by simp only[List.getD]; rw[List.getElem?_eq_none (by omega)]; rfl
     refine⟨⟨by omega,by omega⟩,by rw[ho,D00]; omega,?_⟩
     rw[u64n (z:=(dig a2).getD i.toNat 0) (by omega),<-Int.natCast_add,u64n (by omega),fd32,u32n]
     have g:=step ((dig a2).getD i.toNat 0+k') (by omega) (by omega)
     exact⟨g,by show((x.len:Int)-(i+1)).toNat<((x.len:Int)-i).toNat; omega⟩
 . simp only[decide_eq_false_iff_not]at hp
   refine⟨⟨by omega,by omega⟩,by rw[ho,D00]; omega,λb1 V5 hle5 hb => ?_⟩
   have hi:i.toNat=x.len:=by omega
   have ek:u32.wrap (k':Int)=(k':Int):=u32w (by omega) (by omega)
   have hw:A01 V5 (Sl.mk (some (Addr.mk b1 0 none)) (Int.toNat ((x.len:Int)+1)) (Int.toNat ((x.len:Int)+1))) (l.set x.len k') :=
    A01.of_block (by rw[hb,ho,show 0+Int.toNat (x.len:Int)*1=x.len by omega,ek,N04]) (by simp; omega) (Nat.le_refl _) (hwb.set (by omega))
   refine(J03 hw (by simp; omega)).mono λv V6 _ ⟨r,hv,hr⟩=>⟨r,hv,r,rfl,?_⟩
   have e:wval (l.set x.len k')=a+b:=by
    have h1:(l.set x.len k')=(l.set x.len k').take (x.len+1):=by rw[List.take_of_length_le]; simp; omega
    rw[h1,o06 (by omega)]
    rw[hi,d01 (l:=dig a2) (by omega),d01 (l:=dig b2) (by omega),l01,l01]at hval
    omega
   rw[e]at hr; exact hr
theorem Q13{A B k:Nat}(hA:A<4294967296)(hB:B<4294967296)(hk:k<=1) :
 ∃r c:Nat,Int.fdiv (u64.wrap ((u64.wrap ((A:Int)-(k:Int)))-(B:Int))) (2^(min (Int.toNat 63) (u64.bits)))=(c:Int) /\
  u32.wrap (u64.wrap ((u64.wrap ((A:Int)-(k:Int)))-(B:Int)))=(r:Int)/\r+B+k=A+c*4294967296/\r<4294967296/\c<=1:=by
 have e:u64.wrap ((u64.wrap ((A:Int)-(k:Int)))-(B:Int))=(((A:Int)-k-B)%18446744073709551616):=by
  rw[u64m,u64m]; omega
 rw[e]
 obtain⟨m,hm⟩:∃m:Nat,((A:Int)-k-B)%18446744073709551616=m:=⟨(((A:Int)-k-B)%18446744073709551616).toNat,by omega⟩
 rw[hm,fd63,u32n]
 exact⟨m%4294967296,m / 9223372036854775808,rfl,rfl,by omega,by omega,by omega⟩
theorem X0b{V:View}{s t:Sl}{a b:Nat}(hs:o00 V s a)(ht:o00 V t b)(ha:wn a<=2^45)(hba:b<=a) :
 a00 prog A0m #[s.v,t.v] V λv V'=>∃r:Sl,v=r.v/\o00 V' r (a-b):=by
 have hsl:=hs.len
 have htl:=ht.len
 have hwn:=H09 hba
 simp only[wn]at ha hwn
 refine x0k s t V _
  (λ_ x V'=>∃l k:_,x.o11=wv l/\WB l/\l.length=s.len/\x.t6=(k:Nat)/\k<=1/\0<=x.t7/\x.t7<=s.len /\
    wval (l.take x.t7.toNat)+wval ((dig b).take x.t7.toNat)=wval ((dig a).take x.t7.toNat)+k*4294967296^x.t7.toNat)
  (λ_ x _=>(s.len-x.t7).toNat) ⟨⟨by omega,by omega,by omega,by omega⟩,⟨List.replicate s.len 0,0,?_,WB.zeros _,by simp,rfl,by omega,Int.le_refl _,by show(0:Int)<=s.len; omega,by simp[wval]⟩,?_⟩
 . show(List.replicate (Int.toNat (s.len:Int)) [Value.int .u32 0]).flatten=_
   rw[Int.toNat_natCast,L04]
 rintro⟨k,i,o⟩ V2 hle2 ⟨l,k',ho,hwb,hl,hk,hk1,hi0,hi1,hval⟩
 simp only at ho hk hi0 hi1 hval hl ⊢
 subst hk
 have hx2:=hs.le hle2
 have hy2:=ht.le hle2
 refine⟨λhp => ?_,λhp => ?_⟩
 . simp only[decide_eq_true_eq]at hp
   have step:∀(r c:Nat),r+(dig b).getD i.toNat 0+k'=(dig a).getD i.toNat 0+c*4294967296->r<4294967296->c<=1 ->
    (∃l k:_,List.set o (0+Int.toNat i*1) (.int .u32 (r:Nat))=wv l/\WB l/\l.length=s.len/\(c:Int)=(k:Nat)/\k<=1/\0<=i+1/\i+1<=s.len /\
      wval (l.take (i+1).toNat)+wval ((dig b).take (i+1).toNat)=wval ((dig a).take (i+1).toNat)+k*4294967296^(i+1).toNat):=by
    intro r c hrc hr hc
    refine⟨l.set i.toNat r,c,?_,hwb.set hr,by simpa using hl,rfl,hc,by omega,by omega,?_⟩
    . rw[ho,show 0+Int.toNat i*1=i.toNat by omega,N04]
    . rw[show(i+1).toNat=i.toNat+1 by omega,o06 (by omega),C00,C00,Nat.pow_succ]
      have:=congrArg (·*4294967296^i.toNat) hrc
      simp only[Nat.add_mul]at this
      grind
   have w1:=hx2.getD_lt i.toNat
   have w2:=hy2.getD_lt i.toNat
   rw[i64w (n:=i+1) (by omega) (by omega)]
   refine⟨⟨by omega,by omega,hs.isSome (by omega)⟩,_,hx2.get (by omega) (by omega),λhp2 => ?_,λhp2 => ?_⟩
   . simp only[decide_eq_true_eq]at hp2
     refine⟨⟨by omega,by omega,ht.isSome (by omega)⟩,_,hy2.get (by omega) (by omega),⟨by omega,by omega⟩,by rw[ho,D00]; omega,?_⟩
     obtain⟨r,c,e1,e2,e3,e4,e5⟩:=Q13 w1 w2 hk1
     rw[u64n (z:=(dig a).getD i.toNat 0) (by omega),u64n (z:=(dig b).getD i.toNat 0) (by omega),e1,e2]
     exact⟨step r c e3 e4 e5,by show((s.len:Int)-(i+1)).toNat<((s.len:Int)-i).toNat; omega⟩
   . simp only[decide_eq_false_iff_not]at hp2
     have w2:(dig b).getD i.toNat 0=0:=by simp only[List.getD]; rw[List.getElem?_eq_none (by omega)]; rfl
     refine⟨⟨by omega,by omega⟩,by rw[ho,D00]; omega,?_⟩
     obtain⟨r,c,e1,e2,e3,e4,e5⟩:=Q13 w1 (show 0<4294967296 by omega) hk1
     have e0:u64.wrap ((u64.wrap ((((dig a).getD i.toNat 0:Nat):Int)-(k':Int)))-((0:Nat):Int))=u64.wrap ((((dig a).getD i.toNat 0:Nat):Int)-(k':Int)):=by
      rw[u64m,u64m]; omega
     rw[e0]at e1 e2
     rw[u64n (z:=(dig a).getD i.toNat 0) (by omega),e1,e2]
     exact⟨step r c (by omega) e4 e5,by show((s.len:Int)-(i+1)).toNat<((s.len:Int)-i).toNat; omega⟩
 . simp only[decide_eq_false_iff_not]at hp
   intro b1 V5 hle5 hb
   have hi:i.toNat=s.len:=by omega
   have hw:A01 V5 (Sl.mk (some (Addr.mk b1 0 none)) (Int.toNat (s.len:Int)) (Int.toNat (s.len:Int))) l :=
    A01.of_block (by rw[hb,ho]) (by omega) (Nat.le_refl _) hwb
   refine(J03 hw (by omega)).mono λv V6 _ ⟨r,hv,hr⟩=>⟨r,hv,r,rfl,?_⟩
   rw[hi,d01 (l:=dig a) (by omega),d01 (l:=dig b) (by omega),d01 (by omega),l01,l01]at hval
   have h3:=w0e hwb
   have e:wval l=a-b:=by
    rcases Nat.eq_zero_or_pos k' with h0|h0
    . subst h0; omega
    . have:k'=1:=by omega
      subst this
      rw[hl]at h3
      omega
   rw[e]at hr; exact hr
theorem Q0n{a b:Nat}(ha:a<4294967296)(hb:b<4294967296):a*b<=18446744065119617025 :=
 Nat.le_trans (Nat.mul_le_mul (Nat.le_of_lt_succ ha) (Nat.le_of_lt_succ hb)) (by decide)
theorem P06{V:View}{s t:Sl}{a b:Nat}(hs:o00 V s a)(ht:o00 V t b)(ha:wn a<=2^44)(hb:wn b<=2^44) :
 a00 prog p0m #[s.v,t.v] V λv V'=>∃r:Sl,v=r.v/\o00 V' r (a*b):=by
 have hsl:=hs.len
 have htl:=ht.len
 simp only[wn]at ha hb
 refine y0k s t V _
  (λ_ x _=>∃i l,x=Q01.mk (i:Nat) (wv l)/\i<=s.len/\WB l/\l.length=s.len+t.len/\seg l 0 (i+t.len)=wval ((dig a).take i)*b)
  (λ_ x _=>(s.len-x.t6).toNat)
  (λc x _=>∃i k cr l,c=H01.mk (i:Nat)/\i<s.len/\x=S01.mk (cr:Nat) (k:Nat) (wv l)/\WB l/\l.length=s.len+t.len/\k<=t.len/\cr<4294967296 /\
    seg l 0 (i+t.len)+cr*4294967296^(i+k)=wval ((dig a).take i)*b+(dig a).getD i 0*wval ((dig b).take k)*4294967296^i)
  (λ_ x _=>(t.len-x.t8).toNat) ?_
 rw[i64w (n:=(s.len:Int)+t.len) (by omega) (by omega)]
 have hn:Int.toNat ((s.len:Int)+t.len)=s.len+t.len:=by omega
 rw[hn]
 refine⟨⟨by omega,by omega,by omega,by omega⟩,⟨0,List.replicate (s.len+t.len) 0,?_,by omega,WB.zeros _,by simp,?_⟩,?_⟩
 . rw[L04]; rfl
 . rw[p0n]; simp[wval]
 rintro _ V2 hle2 ⟨i,l,rfl,hi,hwb,hl,hval⟩
 refine⟨λhp => ?_,λhp b1 V4 hle4 hb1 => ?_⟩
 . simp only[decide_eq_true_eq]at hp
   refine⟨⟨i,0,0,l,rfl,by omega,rfl,hwb,hl,by omega,by omega,by simp[hval,wval]⟩,?_⟩
   rintro _ V3 hle3 ⟨i',k,cr,l',hc,hi',rfl,hwb',hl',hk,hcr,hval'⟩
   obtain rfl:i=i':=by simp only[H01.mk.injEq]at hc; omega
   have hbd:=(X03 a).getD i
   simp only[Int.toNat_natCast]
   refine⟨λhq => ?_,λhq => ?_⟩
   . simp only[decide_eq_true_eq]at hq
     have hbk:=(X03 b).getD k
     have hwl:=hwb'.getD (i+k)
     have hm:=Q0n hbd hbk
     have hik:i+k<l'.length:=by omega
     rw[i64w (n:=(i:Int)+k) (by omega) (by omega),i64w (n:=(k:Int)+1) (by omega) (by omega)]
     have e1:Int.toNat ((i:Int)+k)=i+k:=by omega
     rw[e1]
     refine⟨⟨by omega,hp,hs.isSome (by omega)⟩,_,(hs.le (View.le_trans hle2 hle3)).get (by show(0:Int)<=(i:Nat); omega) hp,⟨by omega,hq,ht.isSome (by omega)⟩,_,(ht.le (View.le_trans hle2 hle3)).get (by show(0:Int)<=(k:Nat); omega) hq,⟨by omega,by omega⟩,((l'.getD (i+k) 0:Nat):Int),?_,⟨by omega,by omega⟩,?_,?_⟩
     . rw[show 0+(i+k)*1=i+k by omega]; exact M07 hik
     . rw[D00]; omega
     simp only[Int.toNat_natCast]
     rw[u64n (z:=(dig a).getD i 0) (by omega),u64n (z:=(dig b).getD k 0) (by omega),u64n (z:=l'.getD (i+k) 0) (by omega),<-Int.natCast_mul,u64n (z:=(dig a).getD i 0*(dig b).getD k 0) (by omega),<-Int.natCast_add,
      u64n (z:=(dig a).getD i 0*(dig b).getD k 0+l'.getD (i+k) 0) (by omega),<-Int.natCast_add,u64n (by omega),fd32,u32n,show 0+(i+k)*1=i+k by omega]
     generalize hm':(dig a).getD i 0*(dig b).getD k 0=m at *
     generalize hd:m+l'.getD (i+k) 0+cr=z
     rw[N04]
     refine⟨⟨i,k+1,z / 4294967296,l'.set (i+k) (z%4294967296),rfl,by omega,by simp,hwb'.set (by omega),by simpa using hl',by omega,by omega,?_⟩,by show((t.len:Int)-((k:Int)+1)).toNat<((t.len:Int)-k).toNat; omega⟩
     have h1:=o0n (l:=l') (p:=i+k) (d:=z%4294967296) (j:=0) (k:=i+t.len) (by omega) (by omega) hik
     rw[Nat.sub_zero]at h1
     rw[C00,<-Nat.add_assoc,Nat.pow_succ]
     have h2:z%4294967296+z / 4294967296*4294967296=z:=by omega
     have h3:=congrArg (·*4294967296^(i+k)) h2
     rw[<-hd]at h3
     simp only[Nat.add_mul]at h3
     have h4:(dig a).getD i 0*((dig b).getD k 0*4294967296^k)*4294967296^i=m*4294967296^(i+k):=by rw[<-hm',Nat.pow_add]; grind
     rw[<-hd]at h1
     rw[Nat.mul_add,Nat.add_mul,h4,<-hd]
     have h5:∀q,q*(4294967296^(i+k)*4294967296)=q*4294967296*4294967296^(i+k):=by intro q; grind
     rw[h5]
     omega
   . simp only[decide_eq_false_iff_not]at hq
     have hkt:k=t.len:=by omega
     subst hkt
     rw[i64w (n:=(i:Int)+t.len) (by omega) (by omega),i64w (n:=(i:Int)+1) (by omega) (by omega)]
     have e1:Int.toNat ((i:Int)+t.len)=i+t.len:=by omega
     rw[e1,show 0+(i+t.len)*1=i+t.len by omega,u32w (by omega) (by omega),N04,D00]
     refine⟨⟨by omega,by omega⟩,by omega,⟨i+1,l'.set (i+t.len) cr,by simp,by omega,hwb'.set hcr,by simpa using hl',?_⟩,by show((s.len:Int)-((i:Int)+1)).toNat<((s.len:Int)-i).toNat; omega⟩
     rw[show i+1+t.len=i+t.len+1 by omega,i02 (by omega) (by omega),hval',C00,d01 (l:=dig b) (by omega),l01]
     grind
 . simp only[decide_eq_false_iff_not]at hp
   have hi':i=s.len:=by omega
   subst hi'
   rw[W06 (by omega),d01 (l:=dig a) (by omega),l01]at hval
   have hw:A01 V4 (Sl.mk (some (Addr.mk b1 0 none)) (s.len+t.len) (s.len+t.len)) l:=A01.of_block hb1 (by omega) (Nat.le_refl _) hwb
   refine(J03 hw (by omega)).mono λv V6 _ ⟨r,hv,hr⟩=>⟨r,hv,r,rfl,?_⟩
   rw[hval]at hr; exact hr
theorem S0f{V:View}{s:Sl}{a d:Nat}(hs:o00 V s a)(ha:wn a<=2^45)(hd0:0<d)(hd:d<4294967296) :
 a00 prog E0i #[s.v,.int .u32 (d:Int)] V λv V'=>∃r:Sl,v = .tuple #[r.v,.int .u32 ((a%d:Nat):Int)]/\o00 V' r (a / d):=by
 have hsl:=hs.len
 simp only[wn]at ha
 refine D0h s d V _
  (λ_ x _=>∃(j k rest:Nat) (l:List Nat),x=x01.mk (rest:Nat) ((j:Int)-1) (wv l)/\j+k=s.len/\WB l/\l.length=s.len/\rest<d/\seg (dig a) j k=seg l j k*d+rest)
  (λ_ x _=>(x.t8+1).toNat) ⟨⟨by omega,by omega,by omega,by omega⟩,⟨s.len,0,0,List.replicate s.len 0,?_,by omega,WB.zeros _,by simp,hd0,by simp[o05]⟩,?_⟩
 . rw[i64w (by omega) (by omega),Int.toNat_natCast,L04]; rfl
 rintro _ V1 hle ⟨j,k,rest,l,rfl,hjk,hwb,hl,hr,hval⟩
 refine⟨λhp => ?_,λhp b1 V3 hle3 hb1 => ?_⟩
 . simp only[ge_iff_le,decide_eq_true_eq]at hp
   obtain⟨i,rfl⟩:∃i,j=i+1:=⟨j-1,by omega⟩
   simp only[show(((i+1:Nat):Int)-1)=(i:Nat)by omega,Int.toNat_natCast]
   have hw:=(X03 a).getD i
   have h1:(rest*4294967296+(dig a).getD i 0) / d<4294967296:=by
    rw[Nat.div_lt_iff_lt_mul (by omega)]
    have:=Nat.mul_le_mul_right 4294967296 (Nat.succ_le_of_lt hr)
    rw[Nat.succ_mul]at this
    omega
   have h2:(rest*4294967296+(dig a).getD i 0)%d<d:=Nat.mod_lt _ (by omega)
   have e:(2:Int)^(min (Int.toNat 32) (u64.bits))=4294967296:=by decide
   refine⟨⟨by omega,by omega,hs.isSome (by omega)⟩,_,(hs.le hle).get (i:=(i:Nat)) (by omega) (by omega),?_⟩
   simp only[Int.toNat_natCast]
   rw[u64n (z:=d) (by omega),u64n (z:=(dig a).getD i 0) (by omega),e,show(rest:Int)*4294967296=((rest*4294967296:Nat):Int)by omega,u64n (z:=rest*4294967296) (by omega),or64 hw (by omega),
    u64n (z:=rest*4294967296+(dig a).getD i 0) (by omega),<-Int.ofNat_tdiv,<-Int.ofNat_tmod,u64n (by omega),u32n,Nat.mod_eq_of_lt h1,i64w (by omega) (by omega),show 0+i*1=i by omega,N04]
   refine⟨by omega,⟨by omega,by omega⟩,by rw[D00]; omega,by omega,⟨i,k+1,_,_,rfl,by omega,hwb.set h1,by simpa using hl,Nat.mod_lt _ hd0,?_⟩,by show((i:Int)-1+1).toNat<((i:Int)+1).toNat; omega⟩
   rw[Nat.add_comm k 1,z07,z07 _ i 1 k,hval,O07 (j:=i+1) (by omega),e02,e02,o05,o05,Nat.add_zero,U05,if_pos ⟨rfl,by omega⟩]
   have:=Nat.div_add_mod (rest*4294967296+(dig a).getD i 0) d
   generalize (rest*4294967296+(dig a).getD i 0) / d=q at *
   generalize (rest*4294967296+(dig a).getD i 0)%d=m at *
   simp only[Nat.pow_zero,Nat.mul_one,Nat.pow_one,Nat.zero_add,Nat.mul_add,Nat.add_mul]
   have e2:4294967296*(seg l (i+1) k*d)=4294967296*seg l (i+1) k*d:=by rw[Nat.mul_assoc]
   have e3:q*d=d*q:=Nat.mul_comm _ _
   omega
 . simp only[ge_iff_le,decide_eq_false_iff_not]at hp
   have hj:j=0:=by omega
   subst hj
   have hk:k=s.len:=by omega
   subst hk
   have hw:A01 V3 (Sl.mk (some (Addr.mk b1 0 none)) (Int.toNat (s.len:Int)) (Int.toNat (s.len:Int))) l:=A01.of_block hb1 (by omega) (Nat.le_refl _) hwb
   rw[W06 (by omega),W06 (by omega),l01]at hval
   have e1:a / d=wval l:=by rw[hval,Nat.mul_comm,Nat.mul_add_div hd0,Nat.div_eq_of_lt hr]; omega
   have e2:a%d=rest:=by rw[hval,Nat.mul_comm,Nat.mul_add_mod,Nat.mod_eq_of_lt hr]
   refine(J03 hw (by omega)).mono λv V6 _ ⟨r,hv,hr⟩=>⟨r,hv,r,?_,?_⟩
   . rw[e2,u32n,Nat.mod_eq_of_lt (by omega)]
   . rw[e1]; exact hr
theorem N0y{x:Nat}(h:x≠0):bl x=bl (x / 2)+1:=by
 by_cases h1:x=1
 . subst h1; decide
 . have:=w0t (m:=x) 1 (by omega)
   simpa using this
theorem P02{V:View}{s:Sl}{a:Nat}(hs:o00 V s a)(ha:wn a<=2^45) :
 a00 prog S07 #[s.v] V λv _=>v = .int .i64 (bl a:Nat):=by
 have hsl:=hs.len
 have hwn:wn a=s.len:=by simp only[wn]; exact hsl.symm
 refine M0i s V _ (λ_ x _=>∃k y:Nat,x=C01.mk (k:Nat) (y:Nat)/\k+bl y=bl ((dig a).getD (wn a-1) 0)/\k<=32) (λ_ x _=>x.t4.toNat) ⟨λh => ?_,λh => ?_⟩
 . have h:(s.len:Int)=0:=by simpa using h
   have:a=0:=P04.1 (by omega)
   subst this; rfl
 . have h:¬(s.len:Int)=0:=by simpa using h
   have ha0:a≠0:=by rintro rfl; rw[w06]at hwn; omega
   rw[i64w (n:=(s.len:Int)-1) (by omega) (by omega)]
   have e:Int.toNat ((s.len:Int)-1)=wn a-1:=by omega
   have h2:=b12 ha0
   have h3:bl ((dig a).getD (wn a-1) 0)<=32:=by
    have h3:=(P07 ha0).2.2
    have:=I0d h3
    have:=(X03 a).getD (wn a-1)
    have:=(Nat.pow_lt_pow_iff_right (a:=2) (n:=bl ((dig a).getD (wn a-1) 0)-1) (m:=32) (by omega)).1 (by omega)
    omega
   refine⟨⟨by omega,by omega,hs.isSome (by omega)⟩,_,hs.get (by omega) (by omega),⟨0,_,rfl,by rw[e]; omega,by omega⟩,?_⟩
   rintro _ V1 l1 ⟨k,y,rfl,hk,hk2⟩
   refine⟨λhp => ?_,λhp => ?_⟩
   . simp only[gt_iff_lt,decide_eq_true_eq]at hp
     have hb:=N0y (x:=y) (by omega)
     have e1:Int.fdiv (y:Int) (2^(min (Int.toNat 1) (u32.bits)))=((y / 2:Nat):Int):=by
      have e2:(2:Int)^(min (Int.toNat 1) (u32.bits))=2:=by decide
      rw[e2,Int.fdiv_eq_ediv_of_nonneg _ (by omega)]; omega
     simp only[]
     rw[e1,i64w (by omega) (by omega)]
     exact⟨⟨k+1,y / 2,rfl,by omega,by omega⟩,by show((y / 2:Nat):Int).toNat<(y:Int).toNat; omega⟩
   . simp only[gt_iff_lt,decide_eq_false_iff_not]at hp
     have hy:y=0:=by omega
     subst hy
     rw[B0b]at hk
     simp only[]
     rw[i64w (n:=32*_) (by omega) (by omega),i64w (by omega) (by omega)]
     congr 1
     omega
theorem T04{V:View}{s:Sl}{a n:Nat}(hs:o00 V s a)(ha:wn a<=2^44)(hn:n<=2^44) :
 a00 prog Y0e #[s.v,.int .i64 (n:Int)] V λv V'=>∃r:Sl,v=r.v/\o00 V' r (a*2^n):=by
 have hsl:=hs.len
 have hs0:s.len=0->a=0:=λh=>P04.1 (by simp only[wn]; omega)
 simp only[wn]at ha
 obtain⟨W,hW⟩:∃W,W=n / 32:=⟨_,rfl⟩
 obtain⟨R,hR⟩:∃R,R=2^(n%32):=⟨_,rfl⟩
 have hR1:R<=2147483648:=by rw[hR]; exact Nat.pow_le_pow_right (by omega) (show n%32<=31 by omega)
 obtain⟨Q,hQ⟩:∃Q,R*Q=4294967296:=⟨2^(32-n%32),by rw[hR,<-Nat.pow_add,show n%32+(32-n%32)=32 by omega]⟩
 refine s0k s n V _
  (λ_ x _=>∃(i:Nat) (l:List Nat),x=M01.mk (i:Nat) (wv l)/\i<=s.len/\WB l/\l.length=s.len+W+1/\seg l 0 (i+W+1)=wval ((dig a).take i)*R*4294967296^W/\l.getD (i+W) 0<R)
  (λ_ x _=>(s.len-x.t6).toNat)
  ⟨λh=>⟨_,rfl,by have h:(s.len:Int)=0:=(by simpa using h); have:=hs0 (by omega); subst this; rw[Nat.zero_mul]; exact o00.zero V⟩,λ_ => ?_⟩
 rw[td32,tm32,<-hW,i64w (n:=(W:Int)) (by omega) (by omega),i64w (n:=(s.len:Int)+W) (by omega) (by omega),i64w (n:=(s.len:Int)+W+1) (by omega) (by omega),
  u64w (n:=((n%32:Nat):Int)) (by omega) (by omega),Int.toNat_natCast,g10 (show n%32<=64 by omega),<-hR]
 have hN:Int.toNat ((s.len:Int)+W+1)=s.len+W+1:=by omega
 rw[hN]
 refine⟨⟨by omega,by omega,by omega,by omega⟩,⟨0,List.replicate (s.len+W+1) 0,?_,by omega,WB.zeros _,by simp,?_,?_⟩,?_⟩
 . rw[L04]; rfl
 . rw[p0n]; simp[wval]
 . have:(List.replicate (s.len+W+1) 0).getD (0+W) 0=0:=by simp only[List.getD,List.getElem?_replicate]; split<;>rfl
   rw[this,hR]; exact Nat.two_pow_pos _
 rintro _ V2 hle2 ⟨i,l,rfl,hi,hwb,hl,hval,hlt⟩
 refine⟨λhp => ?_,λhp b1 V4 hle4 hb1 => ?_⟩
 . simp only[decide_eq_true_eq]at hp
   have hai:=(X03 a).getD i
   have hW2:=hwb.getD (i+W)
   simp only[Int.toNat_natCast]
   rw[i64w (n:=(i:Int)+W) (by omega) (by omega),i64w (n:=(i:Int)+W+1) (by omega) (by omega),i64w (n:=(i:Int)+1) (by omega) (by omega)]
   have e1:Int.toNat ((i:Int)+W)=i+W:=by omega
   have e2:Int.toNat ((i:Int)+W+1)=i+W+1:=by omega
   rw[e1,e2,show 0+(i+W)*1=i+W by omega,show 0+(i+W+1)*1=i+W+1 by omega]
   refine⟨⟨by omega,hp,hs.isSome (by omega)⟩,_,(hs.le hle2).get (i:=(i:Nat)) (by omega) hp,by omega,⟨by omega,by omega⟩,((l.getD (i+W) 0:Nat):Int),M07 (by omega),⟨by omega,by omega⟩,by rw[D00]; omega,⟨by omega,by omega⟩,by simp only[List.length_set,D00]; omega,?_⟩
   simp only[Int.toNat_natCast]
   generalize hA:(dig a).getD i 0=A at *
   have hm:A*R<=4294967295*2147483648:=Nat.mul_le_mul (by omega) hR1
   rw[u64w (n:=(A:Int)) (by omega) (by omega),<-Int.natCast_mul,u64w (n:=((A*R:Nat):Int)) (by omega) (by omega)]
   have e3:(2:Int)^(min (Int.toNat 32) (u64.bits))=4294967296:=by decide
   rw[e3,Int.fdiv_eq_ediv_of_nonneg _ (by omega)]
   have e4:u32.wrap (((A*R:Nat):Int) / 4294967296)=((A*R / 4294967296:Nat):Int):=by rw[u32w (by omega) (by omega)]; omega
   have e5:u32.wrap ((A*R:Nat):Int)=((A*R%4294967296:Nat):Int):=by rw[u32m]; omega
   have e6:A*R%4294967296=(A%Q)*R:=by
    rw[<-hQ,Nat.mul_comm A R,Nat.mul_mod_mul_left,Nat.mul_comm]
   have hhi:A*R / 4294967296<R:=by
    rw[Nat.div_lt_iff_lt_mul (by omega),Nat.mul_comm]
    exact Nat.mul_lt_mul_of_pos_left (by omega) (by rw[hR]; exact Nat.two_pow_pos _)
   have hlo:l.getD (i+W) 0+A*R%4294967296<4294967296:=by
    rw[e6]
    have h0:0<Q:=by
     rcases Nat.eq_zero_or_pos Q with h|h
     . subst h; simp at hQ
     . exact h
    have h1:A%Q+1<=Q:=Nat.mod_lt _ h0
    have h2:=Nat.mul_le_mul_right R h1
    rw[Nat.succ_mul,Nat.mul_comm Q R,hQ]at h2
    omega
   rw[e4,e5,b13 hW2 (Nat.mod_lt _ (by omega)),e6]
   have hor:(l.getD (i+W) 0 ||| A%Q*R)=l.getD (i+W) 0+A%Q*R:=by
    rw[hR]at hlt ⊢; exact X10 hlt
   rw[hor,<-e6,u32w (by omega) (by omega),N04,N04]
   refine⟨⟨i+1,(l.set (i+W) (l.getD (i+W) 0+A*R%4294967296)).set (i+W+1) (A*R / 4294967296),rfl,by omega,(hwb.set (by omega)).set (by omega),by simpa using hl,?_,?_⟩,by show((s.len:Int)-((i:Int)+1)).toNat<((s.len:Int)-i).toNat; omega⟩
   . rw[show i+1+W+1=(i+W+1)+1 by omega,i02 (by omega) (by simp; omega)]
     have h1:=o0n (l:=l) (p:=i+W) (d:=l.getD (i+W) 0+A*R%4294967296) (j:=0) (k:=i+W+1) (by omega) (by omega) (by omega)
     rw[Nat.sub_zero,hval]at h1
     rw[C00,hA,Nat.pow_succ]
     have h2:A*R%4294967296+A*R / 4294967296*4294967296=A*R:=by omega
     have h3:=congrArg (·*4294967296^(i+W)) h2
     simp only[Nat.add_mul]at h1 h3 ⊢
     have h4:A*4294967296^i*R*4294967296^W=A*R*4294967296^(i+W):=by rw[Nat.pow_add]; grind
     have h5:∀q,q*(4294967296^(i+W)*4294967296)=q*4294967296*4294967296^(i+W):=by intro q; grind
     rw[h4,h5]
     omega
   . rw[U05,if_pos ⟨by omega,by simp; omega⟩]; exact hhi
 . simp only[decide_eq_false_iff_not]at hp
   have hi':i=s.len:=by omega
   subst hi'
   rw[W06 (by omega),d01 (l:=dig a) (by omega),l01]at hval
   have hw:A01 V4 (Sl.mk (some (Addr.mk b1 0 none)) (s.len+W+1) (s.len+W+1)) l:=A01.of_block hb1 (by omega) (Nat.le_refl _) hwb
   refine(J03 hw (by omega)).mono λv V6 _ ⟨r,hv,hr⟩=>⟨r,hv,r,rfl,?_⟩
   rw[hval,Nat.mul_assoc,hR,hW,<-H0f]at hr; exact hr
theorem Q06{V:View}{s:Sl}{a n:Nat}(hs:o00 V s a)(ha:wn a<=2^44)(hn:n<=2^44) :
 a00 prog o0b #[s.v,.int .i64 (n:Int)] V λv V'=>∃r:Sl,v=r.v/\o00 V' r (a / 2^n):=by
 have hsl:=hs.len
 have hwn:wn a=s.len:=by simp only[wn]; exact hsl.symm
 have haw:=x0e a
 rw[hwn]at ha haw
 obtain⟨W,hW⟩:∃W,W=n / 32:=⟨_,rfl⟩
 obtain⟨R,hR⟩:∃R,R=2^(n%32):=⟨_,rfl⟩
 have hR0:0<R:=by rw[hR]; exact Nat.two_pow_pos _
 obtain⟨Q,hQ⟩:∃Q,R*Q=4294967296:=⟨2^(32-n%32),by rw[hR,<-Nat.pow_add,show n%32+(32-n%32)=32 by omega]⟩
 have hpow:2^n=4294967296^W*R:=by rw[hR,hW,Nat.mul_comm,<-H0f]
 refine t0k s n V _
  (λ_ x _=>∃(i:Nat) (l:List Nat),x=s01.mk (i:Nat) (wv l)/\i<=s.len-W/\WB l/\l.length=s.len-W/\seg l 0 i=a / 2^n%4294967296^i)
  (λ_ x _=>(s.len-x.t6).toNat) ?_
 rw[td32,tm32,<-hW,i64w (n:=(W:Int)) (by omega) (by omega)]
 refine⟨λh=>⟨_,rfl,?_⟩,λh => ?_⟩
 . simp only[ge_iff_le,decide_eq_true_eq]at h
   have:a / 2^n=0:=by
    refine Nat.div_eq_of_lt (Nat.lt_of_lt_of_le haw ?_)
    rw[hpow]
    have h1:4294967296^s.len<=4294967296^W:=Nat.pow_le_pow_right (by omega) (by omega)
    have:=Nat.mul_le_mul_left (4294967296^W) hR0
    omega
   rw[this]; exact o00.zero V
 simp only[ge_iff_le,decide_eq_false_iff_not]at h
 rw[i64w (n:=(s.len:Int)-W) (by omega) (by omega),u64w (n:=((n%32:Nat):Int)) (by omega) (by omega),Int.toNat_natCast,g10 (show n%32<=64 by omega),<-hR]
 have hN:Int.toNat ((s.len:Int)-W)=s.len-W:=by omega
 rw[hN]
 refine⟨⟨by omega,by omega,by omega,by omega⟩,⟨0,List.replicate (s.len-W) 0,?_,by omega,WB.zeros _,by simp,?_⟩,?_⟩
 . rw[L04]; rfl
 . simp[o05,Nat.mod_one]
 rintro _ V2 hle2 ⟨i,l,rfl,hi,hwb,hl,hval⟩
 refine⟨λhp => ?_,λhp b1 V4 hle4 hb1 => ?_⟩
 . simp only[decide_eq_true_eq]at hp
   simp only[Int.toNat_natCast]
   rw[i64w (n:=(i:Int)+W) (by omega) (by omega),i64w (n:=(i:Int)+W+1) (by omega) (by omega),i64w (n:=(i:Int)+1) (by omega) (by omega)]
   have w1:=(X03 a).getD (W+i)
   have w2:=(X03 a).getD (W+i+1)
   have e1:Int.toNat ((i:Int)+W)=W+i:=by omega
   have e2:Int.toNat ((i:Int)+W+1)=W+i+1:=by omega
   have e3:(2:Int)^(min (Int.toNat 32) (u64.bits))=4294967296:=by decide
   have word:=J0t (a:=a) (W:=W) (i:=i) hQ hR0
   rw[<-hpow]at word
   have step:∀z:Nat,z=(dig a).getD (W+i) 0+4294967296*(dig a).getD (W+i+1) 0 ->
    (∃(i':Nat) (l':List Nat),s01.mk ((i:Int)+1) ((wv l).set (0+i*1) (.int .u32 (u32.wrap (Int.fdiv (z:Int) (R:Nat)))))=s01.mk (i':Nat) (wv l')/\i'<=s.len-W/\WB l'/\l'.length=s.len-W/\seg l' 0 i'=a / 2^n%4294967296^i'):=by
    intro z hz
    have ez:u32.wrap (Int.fdiv (z:Int) (R:Nat))=((a / 2^n / 4294967296^i%4294967296:Nat):Int):=by
     rw[Int.fdiv_eq_ediv_of_nonneg _ (by omega),u32m,<-word,<-hz]; rfl
    rw[ez,show 0+i*1=i by omega,N04]
    refine⟨i+1,_,rfl,by omega,hwb.set (Nat.mod_lt _ (by omega)),by simpa using hl,?_⟩
    rw[i02 (by omega) (by omega),hval,Nat.pow_succ,Nat.mod_mul,Nat.mul_comm (4294967296^i)]
   have hme:((s.len:Int)-((i:Int)+1)).toNat<((s.len:Int)-i).toNat:=by omega
   have g1:=(hs.le hle2).get (i:=(i:Int)+W) (by omega) (by omega)
   rw[e1]at g1 ⊢
   refine⟨⟨by omega,by omega,hs.isSome (by omega)⟩,_,g1,λhq => ?_,λhq => ?_⟩
   . simp only[decide_eq_true_eq]at hq
     have g2:=(hs.le hle2).get (i:=(i:Int)+W+1) (by omega) (by omega)
     rw[e2]at g2 ⊢
     refine⟨⟨by omega,by omega,hs.isSome (by omega)⟩,_,g2,by omega,⟨by omega,by omega⟩,by rw[D00]; omega,?_⟩
     rw[e3,u64w (n:=(((dig a).getD (W+i) 0:Nat):Int)) (by omega) (by omega),u64w (n:=(((dig a).getD (W+i+1) 0:Nat):Int)) (by omega) (by omega),u64w (n:=(((dig a).getD (W+i+1) 0:Nat):Int)*4294967296) (by omega) (by omega),
      show(((dig a).getD (W+i+1) 0:Nat):Int)*4294967296=(((dig a).getD (W+i+1) 0*4294967296:Nat):Int)by omega,Z12 w1 w2,u64w (by omega) (by omega)]
     exact⟨step _ (by omega),hme⟩
   . simp only[decide_eq_false_iff_not]at hq
     refine⟨by omega,⟨by omega,by omega⟩,by rw[D00]; omega,?_⟩
     rw[u64w (n:=(((dig a).getD (W+i) 0:Nat):Int)) (by omega) (by omega)]
     have h0:(dig a).getD (W+i+1) 0=0:=by simp only[List.getD]; rw[List.getElem?_eq_none (by omega)]; rfl
     exact⟨step _ (by omega),hme⟩
 . simp only[decide_eq_false_iff_not]at hp
   have hi':i=s.len-W:=by omega
   subst hi'
   have hw:A01 V4 (Sl.mk (some (Addr.mk b1 0 none)) (s.len-W) (s.len-W)) l:=A01.of_block hb1 (by omega) (Nat.le_refl _) hwb
   refine(J03 hw (by omega)).mono λv V6 _ ⟨r,hv,hr⟩=>⟨r,hv,r,rfl,?_⟩
   rw[W06 (by omega)]at hval
   have hlt:a / 2^n<4294967296^(s.len-W):=by
    rw[hpow,<-Nat.div_div_eq_div_mul]
    refine Nat.lt_of_le_of_lt (Nat.div_le_self _ _) ?_
    rw[Nat.div_lt_iff_lt_mul (Nat.pow_pos (by omega)),<-Nat.pow_add,show s.len-W+W=s.len by omega]
    exact haw
   rw[hval,Nat.mod_eq_of_lt hlt]at hr; exact hr
