/- Part. -/
import Derived.Test.YtblaagclfalaaaaGreatPartD
import Derived.Laws.StructEq
namespace Go.Proofs.YtblaagclfalaaaaGreat
open Go Go.Vc Go.Proofs
open Go.Proofs.Tryz (prog)
open Go.IntKind (i64 u64 u32 u8)
theorem C08{V:View}{s t:Sl}{a b:Nat}(hs:B00 V s a)(ht:B00 V t b)(ha:wn a<=2^43)(hb:wn b<=2^43) :
 a00 prog z0j #[s.v,t.v] V λv V'=>∃r:Sl,v=r.v/\B00 V' r (Nat.gcd a b):=by
 refine L0h s t V _ (λ_ x V'=>∃a' b',B00 V' x.t0 a'/\B00 V' x.t1 b'/\wn a'<=2^43/\wn b'<=2^43/\Nat.gcd a' b'=Nat.gcd a b) (λ_ x V'=>d0d V' x.t1) ⟨⟨a,b,hs,ht,ha,hb,rfl⟩,?_⟩
 rintro⟨x,y⟩ V1 l1 ⟨a',b',hx,hy,wa,wb,hg⟩
 simp only at hx hy ⊢
 have hyl:=hy.len
 refine⟨λhp => ?_,λhp => ?_⟩
 . simp only[gt_iff_lt,decide_eq_true_eq]at hp
   have hb0:b'≠0:=λe=>by rw[<-hy.len_zero]at e; omega
   refine(Q04 hx hy wa hb0).mono λv V2 l2 ⟨q,r,hv,hq,hr⟩=>⟨q,r,hv,?_⟩
   have hlt:a'%b'<b':=Nat.mod_lt _ (by omega)
   have hwr:wn (a'%b')<=wn b':=a0a (Nat.le_of_lt hlt)
   refine⟨⟨b',a'%b',hy.le l2,hr,wb,by omega,?_⟩,?_⟩
   . rw[Nat.gcd_comm,<-Nat.gcd_rec,Nat.gcd_comm]; exact hg
   . rw[o08 hr,o08 hy]; exact hlt
 . simp only[gt_iff_lt,decide_eq_false_iff_not]at hp
   have hb0:b'=0:=hy.len_zero.1 (by omega)
   subst hb0
   rw[Nat.gcd_zero_right]at hg
   exact⟨x,rfl,by rw[<-hg]; exact hx⟩
theorem m04{V:View}{s:Sl}{n:Nat}(neg:Bool)(h:B00 V s n) :
 a00 prog Y0a #[.bool neg,s.v] V λv V'=>∃r:WhV,v=r.val/\Z02 V' r (if neg=true then -(n:Int)else n):=by
 have hl:=h.len_zero
 refine M0h neg s V _ ⟨λhn=>⟨_,rfl,?_,?_⟩,λhn=>⟨_,rfl,?_,?_⟩⟩
 . rw[if_pos hn]; simp only[gt_iff_lt,decide_eq_decide]; omega
 . rw[if_pos hn]; simpa using h
 . rw[if_neg (by simp[hn])]; symm; simp only[decide_eq_false_iff_not]; omega
 . rw[if_neg (by simp[hn])]; simpa using h
theorem A07{V:View}{n:Int}(h0 : -9223372036854775808<=n)(h1:n<=9223372036854775807) :
 a00 prog b0l #[.int .i64 n] V λv V'=>∃r:WhV,v=r.val/\Z02 V' r n:=by
 refine N0j n V _ ⟨λhn => ?_,λhn => ?_⟩
 . simp only[decide_eq_true_eq]at hn
   have e:u64.wrap (i64.wrap (0-n)) = -n:=by
    by_cases hm:n = -9223372036854775808
    . subst hm; decide
    . rw[i64w (by omega) (by omega),u64w (by omega) (by omega)]; omega
   rw[e]
   refine(m09 (by omega) (by omega)).mono λv V1 _ ⟨r,hv,hr⟩=>⟨r,hv,_,rfl,by simp[hn],?_⟩
   have e2:n.natAbs=(-n).toNat:=by omega
   rw[e2]; exact hr
 . simp only[decide_eq_false_iff_not]at hn
   rw[u64w (by omega) (by omega)]
   refine(m09 (by omega) (by omega)).mono λv V1 _ ⟨r,hv,hr⟩=>⟨r,hv,_,rfl,by simp[hn],?_⟩
   have e2:n.natAbs=n.toNat:=by omega
   rw[e2]; exact hr
theorem S04{V:View}{x:WhV}{a:Int}(h:Z02 V x a) :
 a00 prog t0j #[x.val] V λv V'=>∃r:WhV,v=r.val/\Z02 V' r (-a):=by
 refine N0h x V _ ((m04 (!x.neg) h.2).mono λv V1 _ ⟨r,hv,hr⟩=>⟨r,hv,r,rfl,?_⟩)
 have e:(if(!x.neg)=true then -(a.natAbs:Int)else(a.natAbs:Int)) = -a:=by
  rw[h.1]; simp only[Bool.not_eq_true',decide_eq_false_iff_not]; split<;>omega
 rw[e]at hr; exact hr
theorem P06{V:View}{x y:WhV}{a b:Int}(hx:Z02 V x a)(hy:Z02 V y b)(ha:wn a.natAbs<=2^43)(hb:wn b.natAbs<=2^43) :
 a00 prog u0j #[x.val,y.val] V λv V'=>∃r:WhV,v=r.val/\Z02 V' r (a+b):=by
 have h1:=hx.1
 have h2:=hy.1
 refine Q0h x y V _ ⟨λhs => ?_,λhs => ?_⟩
 . refine(P0f hx.2 hy.2 (by omega) (by omega)).mono λv V1 l1 ⟨r,hv,hr⟩=>⟨r,hv,?_⟩
   refine(m04 x.neg hr).mono λv V2 _ ⟨w,hv,hw⟩=>⟨w,hv,w,rfl,?_⟩
   have e:(if x.neg=true then -((a.natAbs+b.natAbs:Nat):Int)else((a.natAbs+b.natAbs:Nat):Int))=a+b:=by
    rw[h1,h2]at hs; rw[h1]
    by_cases p:a<0<;>by_cases q:b<0<;>simp[p,q]at hs ⊢<;>omega
   rw[e]at hw; exact hw
 . refine(y0b hx.2 hy.2 (by omega)).mono λv V1 l1 hv=>⟨_,hv,λhc => ?_,λhc => ?_⟩
   . have hc:b.natAbs<=a.natAbs:=by
       rcases Nat.lt_or_ge a.natAbs b.natAbs with h|h
       . rw[if_pos h]at hc; simp at hc
       . exact h
     refine(z0b (hx.2.le l1) (hy.2.le l1) (by omega) hc).mono λv V2 l2 ⟨r,hv,hr⟩=>⟨r,hv,?_⟩
     refine(m04 x.neg hr).mono λv V3 _ ⟨w,hv,hw⟩=>⟨w,hv,w,rfl,?_⟩
     have e:(if x.neg=true then -((a.natAbs-b.natAbs:Nat):Int)else((a.natAbs-b.natAbs:Nat):Int))=a+b:=by
      rw[h1,h2]at hs; rw[h1]
      by_cases p:a<0<;>by_cases q:b<0<;>simp[p,q]at hs ⊢<;>omega
     rw[e]at hw; exact hw
   . have hc:a.natAbs<=b.natAbs:=by
       rcases Nat.lt_or_ge b.natAbs a.natAbs with h|h
       . rw[if_neg (by omega),if_neg (by omega)]at hc; simp at hc
       . exact h
     refine(z0b (hy.2.le l1) (hx.2.le l1) (by omega) hc).mono λv V2 l2 ⟨r,hv,hr⟩=>⟨r,hv,?_⟩
     refine(m04 y.neg hr).mono λv V3 _ ⟨w,hv,hw⟩=>⟨w,hv,w,rfl,?_⟩
     have e:(if y.neg=true then -((b.natAbs-a.natAbs:Nat):Int)else((b.natAbs-a.natAbs:Nat):Int))=a+b:=by
      rw[h1,h2]at hs; rw[h2]
      by_cases p:a<0<;>by_cases q:b<0<;>simp[p,q]at hs ⊢<;>omega
     rw[e]at hw; exact hw
theorem S0f{V:View}{x y:WhV}{a b:Int}(hx:Z02 V x a)(hy:Z02 V y b)(ha:wn a.natAbs<=2^43)(hb:wn b.natAbs<=2^43) :
 a00 prog y0j #[x.val,y.val] V λv V'=>∃r:WhV,v=r.val/\Z02 V' r (a-b):=by
 refine O0h x y V _ ((S04 hy).mono λv V1 l1 ⟨r,hv,hr⟩=>⟨r,hv,?_⟩)
 rw[Int.sub_eq_add_neg]
 exact(P06 (hx.le l1) hr ha (by rw[Int.natAbs_neg]; exact hb)).mono λv V2 _ ⟨w,hv,hw⟩=>⟨w,hv,w,rfl,hw⟩
theorem F02{V:View}{x y:WhV}{a b:Int}(hx:Z02 V x a)(hy:Z02 V y b)(ha:wn a.natAbs<=2^43)(hb:wn b.natAbs<=2^43) :
 a00 prog w0j #[x.val,y.val] V λv V'=>∃r:WhV,v=r.val/\Z02 V' r (a*b):=by
 refine P0h x y V _ ((O06 hx.2 hy.2 (by omega) (by omega)).mono λv V1 l1 ⟨r,hv,hr⟩=>⟨r,hv,?_⟩)
 refine(m04 (!(x.neg==y.neg)) hr).mono λv V2 _ ⟨w,hv,hw⟩=>⟨w,hv,w,rfl,?_⟩
 have e:(if(!(x.neg==y.neg))=true then -((a.natAbs*b.natAbs:Nat):Int)else((a.natAbs*b.natAbs:Nat):Int))=a*b:=by
  rw[B0o _ _ a b rfl rfl,hx.1,hy.1]
  by_cases p:a<0<;>by_cases q:b<0<;>simp[p,q]
 rw[e]at hw; exact hw
theorem B00.lit{V:View}{b n:Nat}(h:V b=some #[.int .u32 (n:Int)])(h0:n≠0)(h1:n<4294967296):B00 V (Sl.mk (some (Addr.mk b 0 none)) 1 1) n:=by
 have e:dig n=[n]:=by
  have h2:n / 4294967296=0:=Nat.div_eq_of_lt h1
  rw[P05 h0,h2,q04,Nat.mod_eq_of_lt h1]
 unfold B00
 rw[e]
 exact S01.of_block (by rw[h]; rfl) rfl (Nat.le_refl _) (by intro d hd; simp at hd; omega)
theorem I0n:dig 1=[1]:=by rw[P05 (by omega)]; simp[q04]
theorem Z02.ofNat{V:View}{s:Sl}{n:Nat}(h:B00 V s n):Z02 V (WhV.mk false s) (n:Int):=⟨by simp,h⟩
theorem L05{V:View}{x y:WhV}{s:Sl}{z:Cq}{a b:Int}{d:Nat}(hx:Z02 V x a)(hy:Z02 V y b)(hs:B00 V s d)(hz:Rep z a b d)(ha:wn a.natAbs<=2^43)(hb:wn b.natAbs<=2^43)(hd:wn d<=2^43) :
 a00 prog X0m #[x.val,y.val,s.v] V λv V'=>∃r:NumV,v=r.val/\QAt V' r z:=by
 obtain⟨e1,e2,e3⟩:=hz.eqs
 have hp:=a0g a b hz.pos
 have d1:=c0c a b d
 have d2:=a0e a b d
 have d3:=S0g a b d
 refine u0l x y s V _ ((C08 hx.2 hy.2 ha hb).mono λv V1 l1 ⟨r1,hv,h1⟩=>⟨r1,hv,?_⟩)
 have hw1:wn (Nat.gcd a.natAbs b.natAbs)<=2^43:=by
  rcases Nat.eq_zero_or_pos a.natAbs with h|h
  . rw[h,Nat.gcd_zero_left]; exact hb
  . exact Nat.le_trans (a0a (Nat.le_of_dvd h (Nat.gcd_dvd_left _ _))) ha
 refine(C08 h1 (hs.le l1) hw1 hd).mono λv V2 l2 ⟨r2,hv,h2⟩=>⟨r2,hv,?_⟩
 have hg:Nat.gcd (Nat.gcd a.natAbs b.natAbs) d=gcd3 a b d:=rfl
 rw[hg]at h2
 have l02:=View.le_trans l1 l2
 have h2l:=h2.len
 have many:gcd3 a b d≠1->a00 prog J08 #[x.mag.v,r2.v] V2 λv V8=>∃(r11:Sl) (r12:Sl),v = .tuple #[r11.v,r12.v] /\
  a00 prog J08 #[y.mag.v,r2.v] V8 λv V9=>∃(r13:Sl) (r14:Sl),v = .tuple #[r13.v,r14.v] /\
  a00 prog J08 #[s.v,r2.v] V9 λv V10=>∃(r15:Sl) (r16:Sl),v = .tuple #[r15.v,r16.v] /\
  a00 prog Y0a #[.bool x.neg,r11.v] V10 λv V11=>∃r17:WhV,v=r17.val /\
  a00 prog Y0a #[.bool y.neg,r13.v] V11 λv V12=>∃r18:WhV,v=r18.val/\∃r:NumV,(NumV.mk r17 r18 r15).val=r.val/\QAt V12 r z:=by
  intro _
  refine(Q04 (hx.2.le l02) h2 ha (by omega)).mono λv V4 l4 ⟨q1,m1,hv,hq1,_⟩=>⟨q1,m1,hv,?_⟩
  refine(Q04 (hy.2.le (View.le_trans l02 l4)) (h2.le l4) hb (by omega)).mono λv V5 l5 ⟨q2,m2,hv,hq2,_⟩=>⟨q2,m2,hv,?_⟩
  have l45:=View.le_trans l4 l5
  refine(Q04 (hs.le (View.le_trans l02 l45)) (h2.le l45) hd (by omega)).mono λv V6 l6 ⟨q3,m3,hv,hq3,_⟩=>⟨q3,m3,hv,?_⟩
  refine(m04 x.neg (hq1.le (View.le_trans l5 l6))).mono λv V7 l7 ⟨w1,hv,hw1⟩=>⟨w1,hv,?_⟩
  refine(m04 y.neg (hq2.le (View.le_trans l6 l7))).mono λv V8 l8 ⟨w2,hv,hw2⟩=>⟨w2,hv,_,rfl,?_,?_,?_⟩
  . rw[e1]
    have e:(if x.neg=true then -((a.natAbs / gcd3 a b d:Nat):Int)else((a.natAbs / gcd3 a b d:Nat):Int))=a / (gcd3 a b d:Nat):=by
     have k1:=l06 d1
     have k2:=k09 d1 hp
     rw[<-k1,hx.1]
     have k3:(a / (gcd3 a b d:Nat)<0)↔a<0:=by simpa using k2
     simp only[decide_eq_true_eq]
     split<;>omega
    rw[e]at hw1; exact hw1.le l8
  . rw[e2]
    have e:(if y.neg=true then -((b.natAbs / gcd3 a b d:Nat):Int)else((b.natAbs / gcd3 a b d:Nat):Int))=b / (gcd3 a b d:Nat):=by
     have k1:=l06 d2
     have k2:=k09 d2 hp
     rw[<-k1,hy.1]
     have k3:(b / (gcd3 a b d:Nat)<0)↔b<0:=by simpa using k2
     simp only[decide_eq_true_eq]
     split<;>omega
    rw[e]at hw2; exact hw2
  . rw[e3]; exact hq3.le (View.le_trans l7 l8)
 refine⟨λhn => ?_,λhn=>⟨λh=>absurd h (by simp),λ_ => ?_⟩⟩
 . have hn:r2.len=1:=by have:(r2.len:Int)=1:=(by simpa using hn); omega
   refine⟨⟨by omega,by omega,h2.isSome (by omega)⟩,_,h2.get (by omega) (by omega),λhw => ?_,λhw => ?_⟩
   . have hw:(dig (gcd3 a b d)).getD 0 0=1:=by have:(((dig (gcd3 a b d)).getD 0 0:Nat):Int)=1:=of_decide_eq_true (by rw[<-hw]; rfl); omega
     have hg1:gcd3 a b d=1:=by
      rw[hn]at h2l
      have h3:=x01 (gcd3 a b d)
      obtain⟨w,hw'⟩:∃w,dig (gcd3 a b d)=[w]:=List.length_eq_one_iff.1 h2l.symm
      rw[hw']at hw h3
      simp[wval]at hw h3
      omega
     rw[hg1]at e1 e2 e3
     simp only[Int.natCast_one,Int.ediv_one]at e1 e2
     rw[Nat.div_one]at e3
     exact⟨_,rfl,by rw[e1]; exact hx.le l02,by rw[e2]; exact hy.le l02,by rw[e3]; exact hs.le l02⟩
   . refine many λh => ?_
     rw[h,I0n]at hw; simp at hw
 . refine many λh => ?_
   rw[h,I0n]at h2l
   rw[h2l]at hn; simp at hn
theorem f06{V:View}{n:Int}(h0 : -9223372036854775808<=n)(h1:n<=9223372036854775807) :
 a00 prog Y0k #[.int .i64 n] V λv V'=>∃r:NumV,v=r.val/\QAt V' r ⟨(n:Rat),0⟩:=by
 obtain⟨e1,e2,e3⟩:=w0c n
 refine O0j n V _ ((A07 h0 h1).mono λv V1 _ ⟨r,hv,hr⟩=>⟨r,hv,λb V2 l2 _ hb=>⟨_,rfl,by rw[e1]; exact hr.le l2,by rw[e2]; exact Z02.zero _,by rw[e3]; exact B00.lit hb (by omega) (by omega)⟩⟩)
theorem q0e{V:View}{p q d:Int}(p0 : -9223372036854775808<=p)(p1:p<=9223372036854775807)(q0 : -9223372036854775808<=q)(q1:q<=9223372036854775807)(d0 : -9223372036854775808<=d)(d1:d<=9223372036854775807)(hd:d≠0) :
 a00 prog m0p #[.int .i64 p,.int .i64 q,.int .i64 d] V λv V'=>∃r:NumV,v = .tuple #[r.val,.int .i64 0]/\QAt V' r ⟨(p:Rat) / (d:Rat),(q:Rat) / (d:Rat)⟩:=by
 refine u0n p q d V _ ⟨λh => ?_,λ_ => ?_⟩
 . exact absurd (by simpa using h) hd
 refine(A07 d0 d1).mono λv V1 l1 ⟨c,hv,hc⟩=>⟨c,hv,?_⟩
 refine(A07 p0 p1).mono λv V2 l2 ⟨a,hv,ha⟩=>⟨a,hv,?_⟩
 refine(A07 q0 q1).mono λv V3 l3 ⟨b,hv,hb⟩=>⟨b,hv,λhn => ?_,λhn => ?_⟩
 . have hneg:d<0:=by have:=hc.1; rw[hn]at this; simpa using this.symm
   refine(S04 (ha.le l3)).mono λv V4 l4 ⟨a',hv,ha'⟩=>⟨a',hv,?_⟩
   refine(S04 (hb.le l4)).mono λv V5 l5 ⟨b',hv,hb'⟩=>⟨b',hv,?_⟩
   refine(L05 (ha'.le l5) hb' (hc.2.le (View.le_trans l2 (View.le_trans l3 (View.le_trans l4 l5)))) ?_ (wn64 (by omega)) (wn64 (by omega)) (wn64 (by omega))).mono λv V6 l6 ⟨r,hv,hr⟩=>⟨r,hv,r,rfl,hr⟩
   have e:((d.natAbs:Nat):Rat) = -(d:Rat):=by
    have:(d.natAbs:Int) = -d:=by omega
    rw[<-Rat.intCast_natCast,this]; push_cast; rfl
   refine⟨by omega,?_,?_⟩<;>(simp only[e]; push_cast; rw[Rat.div_def,Rat.div_def]; grind)
 . have hpos:¬d<0:=by have:=hc.1; rw[hn]at this; simpa using this.symm
   refine(L05 (ha.le l3) hb (hc.2.le (View.le_trans l2 l3)) ?_ (wn64 (by omega)) (wn64 (by omega)) (wn64 (by omega))).mono λv V6 l6 ⟨r,hv,hr⟩=>⟨r,hv,r,rfl,hr⟩
   have e:((d.natAbs:Nat):Rat)=(d:Rat):=by
    have:(d.natAbs:Int)=d:=by omega
    rw[<-Rat.intCast_natCast,this]
   refine⟨by omega,?_,?_⟩<;>simp only[e]
theorem s0e{V:View}{x y:NumV}{z w:Cq}(hx:QAt V x z)(hy:QAt V y w)(hz:z.sz<=2^40)(hw:w.sz<=2^40) :
 a00 prog n0p #[x.val,y.val] V λv V'=>∃r:NumV,v=r.val/\QAt V' r (z+w):=by
 have zA:=Cq.wA hz; have zB:=Cq.wB hz; have zD:=Cq.wD hz
 have wA:=Cq.wA hw; have wB:=Cq.wB hw; have wD:=Cq.wD hw
 have zD':wn (z.D:Int).natAbs<=2^35:=zD
 have wD':wn (w.D:Int).natAbs<=2^35:=wD
 have s1:=Z03 zA wD'; have s2:=Z03 wA zD'; have s3:=Z03 zB wD'; have s4:=Z03 wB zD'
 have s5:=m0b s1 s2; have s6:=m0b s3 s4
 have s7:=j09 z.D w.D
 refine w0n x y V _ ((F02 hx.re (Z02.ofNat hy.under) (by omega) (by omega)).mono λv V1 l1 ⟨r1,hv,h1⟩=>⟨r1,hv,?_⟩)
 replace hx:=hx.le l1; replace hy:=hy.le l1
 refine(F02 hy.re (Z02.ofNat hx.under) (by omega) (by omega)).mono λv V2 l2 ⟨r2,hv,h2⟩=>⟨r2,hv,?_⟩
 replace hx:=hx.le l2; replace hy:=hy.le l2; replace h1:=h1.le l2
 refine(P06 h1 h2 (by omega) (by omega)).mono λv V3 l3 ⟨r3,hv,h3⟩=>⟨r3,hv,?_⟩
 replace hx:=hx.le l3; replace hy:=hy.le l3
 refine(F02 hx.im (Z02.ofNat hy.under) (by omega) (by omega)).mono λv V4 l4 ⟨r4,hv,h4⟩=>⟨r4,hv,?_⟩
 replace hx:=hx.le l4; replace hy:=hy.le l4; replace h3:=h3.le l4
 refine(F02 hy.im (Z02.ofNat hx.under) (by omega) (by omega)).mono λv V5 l5 ⟨r5,hv,h5⟩=>⟨r5,hv,?_⟩
 replace hx:=hx.le l5; replace hy:=hy.le l5; replace h3:=h3.le l5; replace h4:=h4.le l5
 refine(P06 h4 h5 (by omega) (by omega)).mono λv V6 l6 ⟨r6,hv,h6⟩=>⟨r6,hv,?_⟩
 replace hx:=hx.le l6; replace hy:=hy.le l6; replace h3:=h3.le l6
 refine(O06 hx.under hy.under (by omega) (by omega)).mono λv V7 l7 ⟨r7,hv,h7⟩=>⟨r7,hv,?_⟩
 exact(L05 (h3.le l7) (h6.le l7) h7 (z.canon.rep.add w.canon.rep) (by omega) (by omega) (by omega)).mono λv V10 _ ⟨r,hv,hr⟩=>⟨r,hv,r,rfl,hr⟩
theorem q0k{V:View}{x:NumV}{z:Cq}(hx:QAt V x z):a00 prog s0p #[x.val] V λv V'=>∃r:NumV,v=r.val/\QAt V' r (-z):=by
 obtain⟨e1,e2,e3⟩:=z.neg_eqs
 refine y0n x V _ ((S04 hx.re).mono λv V1 l1 ⟨r1,hv,h1⟩=>⟨r1,hv,?_⟩)
 exact(S04 (hx.im.le l1)).mono λv V2 l2 ⟨r2,hv,h2⟩=>⟨r2,hv,_,rfl,by rw[e1]; exact h1.le l2,by rw[e2]; exact h2,by rw[e3]; exact hx.under.le (View.le_trans l1 l2)⟩
theorem f0d{V:View}{x:NumV}{z:Cq}(hx:QAt V x z):a00 prog a0n #[x.val] V λv V'=>∃r:NumV,v=r.val/\QAt V' r z.conj:=by
 obtain⟨e1,e2,e3⟩:=z.conj_eqs
 exact w0l x V _ ((S04 hx.im).mono λv V1 l1 ⟨r1,hv,h1⟩=>⟨r1,hv,_,rfl,by rw[e1]; exact hx.re.le l1,by rw[e2]; exact h1,by rw[e3]; exact hx.under.le l1⟩)
theorem s0k{V:View}{x y:NumV}{z w:Cq}(hx:QAt V x z)(hy:QAt V y w)(hz:z.sz<=2^40)(hw:w.sz<=2^40) :
 a00 prog p0p #[x.val,y.val] V λv V'=>∃r:NumV,v=r.val/\QAt V' r (z-w):=by
 refine z0n x y V _ ((q0k hy).mono λv V1 l1 ⟨r1,hv,h1⟩=>⟨r1,hv,?_⟩)
 rw[x0h]
 exact(s0e (hx.le l1) h1 hz (by rw[w0h]; exact hw)).mono λv V2 _ ⟨r,hv,hr⟩=>⟨r,hv,r,rfl,hr⟩
theorem F05{V:View}{x y:NumV}{z w:Cq}(hx:QAt V x z)(hy:QAt V y w)(hz:z.sz<=2^40)(hw:w.sz<=2^40) :
 a00 prog o0p #[x.val,y.val] V λv V'=>∃r:NumV,v=r.val/\QAt V' r (z*w):=by
 have zA:=Cq.wA hz; have zB:=Cq.wB hz; have zD:=Cq.wD hz
 have wA:=Cq.wA hw; have wB:=Cq.wB hw; have wD:=Cq.wD hw
 have s1:=Z03 zA wA; have s2:=Z03 zB wB; have s2':=E0r s2; have s3:=Z03 zA wB; have s4:=Z03 zB wA
 have s5:=m0b s1 s2'; have s6:=m0b s3 s4
 rw[<-Int.sub_eq_add_neg]at s5
 have s7:=j09 z.D w.D
 refine x0n x y V _ ((F02 hx.re hy.re (by omega) (by omega)).mono λv V1 l1 ⟨r1,hv,h1⟩=>⟨r1,hv,?_⟩)
 replace hx:=hx.le l1; replace hy:=hy.le l1
 refine(F02 hx.im hy.im (by omega) (by omega)).mono λv V2 l2 ⟨r2,hv,h2⟩=>⟨r2,hv,?_⟩
 replace hx:=hx.le l2; replace hy:=hy.le l2; replace h1:=h1.le l2
 refine(S0f h1 h2 (by omega) (by omega)).mono λv V4 l4 ⟨r4,hv,h4⟩=>⟨r4,hv,?_⟩
 replace hx:=hx.le l4; replace hy:=hy.le l4
 refine(F02 hx.re hy.im (by omega) (by omega)).mono λv V5 l5 ⟨r5,hv,h5⟩=>⟨r5,hv,?_⟩
 replace hx:=hx.le l5; replace hy:=hy.le l5; replace h4:=h4.le l5
 refine(F02 hx.im hy.re (by omega) (by omega)).mono λv V6 l6 ⟨r6,hv,h6⟩=>⟨r6,hv,?_⟩
 replace hx:=hx.le l6; replace hy:=hy.le l6; replace h4:=h4.le l6; replace h5:=h5.le l6
 refine(P06 h5 h6 (by omega) (by omega)).mono λv V7 l7 ⟨r7,hv,h7⟩=>⟨r7,hv,?_⟩
 replace hx:=hx.le l7; replace hy:=hy.le l7; replace h4:=h4.le l7
 refine(O06 hx.under hy.under (by omega) (by omega)).mono λv V10 l10 ⟨r10,hv,h10⟩=>⟨r10,hv,?_⟩
 exact(L05 (h4.le l10) (h7.le l10) h10 (z.canon.rep.mul w.canon.rep) (by omega) (by omega) (by omega)).mono λv V11 _ ⟨r,hv,hr⟩=>⟨r,hv,r,rfl,hr⟩
theorem q0c{V:View}{x:WhV}{a:Int}(h:Z02 V x a):x.mag.len=0↔a=0:=by
 have:=h.2.len_zero
 rw[this]; omega
theorem g0a{V:View}{x:NumV}{z:Cq}(hx:QAt V x z):a00 prog T0m #[x.val] V λv _=>v = .int .i64 (cmpR z.re 0):=by
 have h0:=q0c hx.re
 have h1:=hx.re.1
 have hD:=z.D_pos
 have hc:cmpR z.re 0=cmpZ z.A 0:=by
  have:=l0r (A:=z.A) (A':=0) (D:=z.D) (D':=1) hD (by omega)
  rw[<-z.canon.rep.re]at this
  rw[show((0:Int):Rat) / ((1:Nat):Rat)=0 by rw[Rat.div_def]; simp]at this
  rw[<-this]; simp
 refine x0l x V _ ⟨λh => ?_,λh=>⟨λhp => ?_,λhp => ?_⟩⟩
 . have:z.A<0:=by rw[h]at h1; simpa using h1.symm
   rw[hc,i0r this]
 . have hn:¬z.A<0:=by rw[h]at h1; simpa using h1.symm
   have:x.re.mag.len≠0:=by intro e; rw[e]at hp; simp at hp
   have:z.A≠0:=λe=>this (h0.2 e)
   rw[hc,k0r (by omega)]
 . have:x.re.mag.len=0:=by have:¬(0:Int)<x.re.mag.len:=(by simpa using hp); omega
   rw[hc,j0r (h0.1 this)]
theorem k0m{V:View}{x:NumV}{z:Cq}(h:QAt V x z)(hz:z.sz<=2^40):a00 prog T0q #[x.val] V λv V'=>∃r:NumV,v=r.val/\QAt V' r ⟨z.im,0⟩:=by
 have zA:=Cq.wA hz; have zB:=Cq.wB hz; have zD:=Cq.wD hz
 have hr:=z.canon.rep
 exact S0p x V _ ((L05 h.im (Z02.zero V) h.under (z:=⟨z.im,0⟩) ⟨hr.pos,hr.im,by simp[Rat.div_def]⟩ (by omega) (by rw[Int.natAbs_zero,i09]; omega) (by omega)).mono λv V' _ ⟨r,hv,hq⟩=>⟨r,hv,r,rfl,hq⟩)
theorem n06{V:View}{r:RatV}(h:ratI r):a00 prog K0q #[r.val] V λv V'=>∃x:NumV,v=x.val/\QAt V' x (ratQ r):=by
 obtain⟨⟨a1,a2⟩,⟨b1,b2⟩,⟨c1,c2⟩⟩:=h
 refine T0p r V _ ⟨λhd => ?_,λhd => ?_⟩
 . have hd:r.den=0:=by simpa using hd
   refine(q0e a1 a2 b1 b2 (by omega) (by omega) (by omega)).mono λv V1 _ ⟨x,hv,hx⟩=>⟨x,0,hv,x,rfl,?_⟩
   have e:ratQ r=⟨((r.re:Int):Rat) / ((1:Int):Rat),((r.im:Int):Rat) / ((1:Int):Rat)⟩:=by
    unfold ratQ; rw[if_pos hd]
    exact Cq.ext' (by simp only[]; grind) (by simp only[]; grind)
   rw[e]; exact hx
 . have hd:r.den≠0:=by simpa using hd
   refine(q0e a1 a2 b1 b2 c1 c2 hd).mono λv V1 _ ⟨x,hv,hx⟩=>⟨x,0,hv,x,rfl,?_⟩
   have e:ratQ r=⟨((r.re:Int):Rat) / ((r.den:Int):Rat),((r.im:Int):Rat) / ((r.den:Int):Rat)⟩:=by
    unfold ratQ; rw[if_neg hd]
   rw[e]; exact hx
theorem b0i{V:View}{x:NumV}{z:Cq}(h:QAt V x z):a00 prog Z0m #[x.val] V λv _=>v = .bool (decide (z=Cq.zero)):=by
 have a:=h.re.2.len_zero; have b:=h.im.2.len_zero
 have zA:=G0r (z:=z); have zB:=B_zero (z:=z)
 have key:z=Cq.zero↔x.re.mag.len=0/\x.im.mag.len=0:=by
  rw[a,b,Int.natAbs_eq_zero,Int.natAbs_eq_zero,zA,zB]
  exact⟨λe=>by rw[e]; exact⟨rfl,rfl⟩,λ⟨h1,h2⟩=>Cq.ext' h1 h2⟩
 refine s0l x V _ ⟨λhc => ?_,λhc => ?_⟩
 · have hc : x.re.mag.len = 0 := by have : (x.re.mag.len : Int) = 0 := by simpa using hc
                                    omega
   congr 1
   by_cases d:x.im.mag.len=0
   . rw[decide_eq_true (key.2 ⟨hc,d⟩),d]; rfl
   . rw[decide_eq_false (λe=>d (key.1 e).2)]; simpa using d
 · have hc : ¬ x.re.mag.len = 0 := by have : ¬ (x.re.mag.len : Int) = 0 := by simpa using hc
                                      omega
   rw[decide_eq_false (λe=>hc (key.1 e).1)]
theorem D0o(a:Int)(n:Nat):((a*(n:Int):Int):Rat)=(a:Rat)*(n:Rat):=by rw[Rat.intCast_mul]; rfl
theorem c0i{V:View}{x y:NumV}{z w:Cq}(hx:QAt V x z)(hy:QAt V y w)(hz:z.sz<=2^36)(hw:w.sz<=2^36) :
 a00 prog F0i #[x.val,y.val] V λv V'=>∃(r:NumV) (e:Int),v = .tuple #[r.val,.int .i64 e]/\QAt V' r (z.div w)/\(w≠Cq.zero->e=0)/\(w=Cq.zero->e=3):=by
 have cz:=M0c w
 refine t0n x y V _ ((b0i hy).mono λv V1 l1 hv=>⟨_,hv,λhc => ?_,λhc => ?_⟩)
 . have hc:w=Cq.zero:=by simpa using hc
   refine(f06 (by omega) (by omega)).mono λv V2 _ ⟨r,hv,hr⟩=>⟨r,hv,_,_,rfl,?_,λh=>absurd hc h,λ_=>rfl⟩
   have e:z.div w=⟨((0:Int):Rat),0⟩:=by
    rw[hc,Rat.intCast_zero]
    refine Cq.ext' ?_ ?_
    . show(z.re*0+z.im*0) / (0*0+0*0)=0
      have:z.re*0+z.im*0=(0:Rat):=by grind
      rw[this,Rat.div_def]; exact Rat.zero_mul _
    . show(z.im*0-z.re*0) / (0*0+0*0)=0
      have:z.im*0-z.re*0=(0:Rat):=by grind
      rw[this,Rat.div_def]; exact Rat.zero_mul _
   rw[e]; exact hr
 have hc:w≠Cq.zero:=by simpa using hc
 replace hx:=hx.le l1; replace hy:=hy.le l1
 have norm:a00 prog U0m #[y.val] V1 λv V'=>∃r:NumV,v=r.val/\QAt V' r (w*w.conj) :=
  t0l y V1 _ ((f0d hy).mono λv V2 l2 ⟨r,hv,hr⟩=>⟨r,hv,(F05 (hy.le l2) hr (by omega) (by omega)).mono λv V3 _ ⟨q,hv,hq⟩=>⟨q,hv,q,rfl,hq⟩⟩)
 refine norm.mono λv V3 l3 ⟨n,hv,hn⟩=>⟨n,hv,(f0d (hy.le l3)).mono λv V4 l4 ⟨c,hv,hcj⟩=>⟨c,hv,?_⟩⟩
 refine(F05 (hx.le (View.le_trans l3 l4)) hcj (by omega) (by omega)).mono λv V5 l5 ⟨t,hv,ht⟩=>⟨t,hv,?_⟩
 replace hn:=hn.le (View.le_trans l4 l5)
 have ns:=a04 w w.conj
 have ts:=a04 z w.conj
 have n40:(w*w.conj).sz<=2^40:=by omega
 have t40:(z*w.conj).sz<=2^40:=by omega
 have nA:=Cq.wA n40; have nD:=Cq.wD n40; have tA:=Cq.wA t40; have tB:=Cq.wB t40; have tD:=Cq.wD t40
 have hD:=(w*w.conj).D_pos
 refine(F02 ht.re (Z02.ofNat hn.under) (by omega) (by rw[Int.natAbs_natCast]; omega)).mono λv V6 l6 ⟨r6,hv,h6⟩=>⟨r6,hv,?_⟩
 refine(F02 (ht.im.le l6) (Z02.ofNat (hn.under.le l6)) (by omega) (by rw[Int.natAbs_natCast]; omega)).mono λv V7 l7 ⟨r7,hv,h7⟩=>⟨r7,hv,?_⟩
 have L:=View.le_trans l6 l7
 refine(O06 (ht.under.le L) (hn.re.2.le L) (by omega) (by omega)).mono λv V8 l8 ⟨r8,hv,h8⟩=>⟨r8,hv,?_⟩
 have p1:=j09 (z*w.conj).D (w*w.conj).A.natAbs
 have q1:=Z03 tA (b:=((w*w.conj).D:Int)) (by rw[Int.natAbs_natCast]; exact nD)
 have q2:=Z03 tB (b:=((w*w.conj).D:Int)) (by rw[Int.natAbs_natCast]; exact nD)
 have nre:(w*w.conj).re=w.norm:=by show w.re*w.re-w.im * -w.im=w.re*w.re+w.im*w.im; grind
 have npos:0<w.norm:=by
  have h1:0<=w.re*w.re:=g0c _
  have h2:0<=w.im*w.im:=g0c _
  refine Rat.not_le.1 λg=>hc ?_
  have g:w.re*w.re+w.im*w.im<=0:=g
  have e1:w.re*w.re=0:=by grind
  have e2:w.im*w.im=0:=by grind
  exact Cq.ext' (by rcases Rat.mul_eq_zero.1 e1 with h|h<;>exact h) (by rcases Rat.mul_eq_zero.1 e2 with h|h<;>exact h)
 have nrep:=(w*w.conj).canon.rep
 have hA:0<(w*w.conj).A:=by
  refine Int.not_le.1 λg => ?_
  have e:=nrep.re
  rw[nre]at e
  have:((w*w.conj).A:Rat) / ((w*w.conj).D:Rat)<=0:=by
   rw[Rat.div_def]
   have dp : (0 : Rat) < ((w * w.conj).D : Rat) := by have : 0 < (w * w.conj).D := by omega
                                                      exact_mod_cast this
   have ip:(0:Rat)<=((w*w.conj).D:Rat)⁻¹:=Rat.le_of_lt (Rat.inv_pos.2 dp)
   have gq:((w*w.conj).A:Rat)<=0:=by exact_mod_cast g
   have:=Rat.mul_le_mul_of_nonneg_right gq ip
   rw[Rat.zero_mul]at this; exact this
  grind
 have R:Rep (z.div w) ((z*w.conj).A*((w*w.conj).D:Int)) ((z*w.conj).B*((w*w.conj).D:Int)) ((z*w.conj).D*(w*w.conj).A.natAbs):=by
  have trep:=(z*w.conj).canon.rep
  have tre:(z*w.conj).re=z.re*w.re+z.im*w.im:=by show z.re*w.re-z.im * -w.im=_; grind
  have tim:(z*w.conj).im=z.im*w.re-z.re*w.im:=by show z.re * -w.im+z.im*w.re=_; grind
  have e1:=trep.re; have e2:=trep.im; have e3:=nrep.re
  rw[tre]at e1; rw[tim]at e2; rw[nre]at e3
  have dn:((z*w.conj).D:Rat)≠0:=w04 (z*w.conj).D_pos
  have dm:((w*w.conj).D:Rat)≠0:=w04 hD
  have an:(((w*w.conj).A.natAbs:Nat):Rat)=((w*w.conj).A:Rat):=by
   have:(((w*w.conj).A.natAbs:Nat):Int)=(w*w.conj).A:=by omega
   exact congrArg (λx:Int=>(x:Rat)) this
  have am:((w*w.conj).A:Rat)≠0:=by
   intro g
   have:(w*w.conj).A=0:=by exact_mod_cast g
   omega
  refine⟨?_,?_,?_⟩
  . exact Nat.pos_iff_ne_zero.1 (Nat.mul_pos (by have:=(z*w.conj).D_pos; omega) (by omega))
  . show(z.re*w.re+z.im*w.im) / w.norm=_
    rw[e1,e3,D0o (z*w.conj).A,Rat.natCast_mul,an]; grind
  . show(z.im*w.re-z.re*w.im) / w.norm=_
    rw[e2,e3,D0o (z*w.conj).B,Rat.natCast_mul,an]; grind
 refine(L05 (h6.le (View.le_trans l7 l8)) (h7.le l8) h8 R (by omega) (by omega) (by omega)).mono λv V9 _ ⟨r,hv,hr⟩=>⟨r,hv,_,_,rfl,hr,λ_=>rfl,λh=>absurd h hc⟩
theorem t0k{V:View}{x y:NumV}{z w:Cq}(hx:QAt V x z)(hy:QAt V y w)(hz:z.sz<=2^36)(hw:w.sz<=2^36) :
 a00 prog F0i #[x.val,y.val] V λv V'=>∃(r:NumV) (e:Int),v = .tuple #[r.val,.int .i64 e]/\QAt V' r (z.div w)/\(w≠Cq.zero->e=0) :=
 (c0i hx hy hz hw).mono λ_ _ _ ⟨r,e,hv,h1,h2,_⟩=>⟨r,e,hv,h1,h2⟩
theorem l0m{q:Rat}:cmpR q 0=0↔q=0:=by
 unfold cmpR
 by_cases c:q<0
 . rw[if_pos c]; exact⟨λh=>absurd h (by decide),λh=>by grind⟩
 . rw[if_neg c]
   by_cases d:q=0
   . rw[if_pos d]; exact⟨λ_=>d,λ_=>rfl⟩
   . rw[if_neg d]; exact⟨λh=>absurd h (by decide),λh=>absurd h d⟩
theorem P0r{V:View}{a b c:NumV}{x y z:Cq}{S:Nat}(ha:M00 V a x)(hb:M00 V b y)(hc:M00 V c z)(sx:x.sz<=S)(sy:y.sz<=S)(sz:z.sz<=S)(hS:S<=2^30) :
 a00 prog b0n #[a.val,b.val,c.val] V λv V'=>∃r:NumV,v=r.val/\M00 V' r (N0l x y z):=by
 have s1:=K05 x y; have s2:=K05 z y
 refine A0l a b c V _ ((e05 ha hb (by omega) (by omega)).mono λv V1 l1 ⟨r1,hv,h1⟩=>⟨r1,hv,?_⟩)
 refine(e05 (hc.le l1) (hb.le l1) (by omega) (by omega)).mono λv V2 l2 ⟨r2,hv,h2⟩=>⟨r2,hv,?_⟩
 refine(K09 (h1.le l2) h2 (by omega) (by omega)).mono λv V3 l3 ⟨r3,e,hv,hz,hn⟩=>⟨r3,e,hv,r3,rfl,?_⟩
 by_cases g:z-y=Cq.zero
 . have e1:N0l x y z=Cq.zero:=by
     unfold N0l; rw[g]
     refine Cq.ext' ?_ ?_<;>simp only[Cq.div,Cq.norm,Cq.zero,Rat.mul_zero,Rat.add_zero,Rat.div_def,Rat.inv_zero]
   rw[e1]; exact(hz g).2
 . exact(hn g).2
theorem m0m{V:View}{a b c:NumV}{x y z:Cq}{S:Nat}(ha:M00 V a x)(hb:M00 V b y)(hc:M00 V c z)(sx:x.sz<=S)(sy:y.sz<=S)(sz:z.sz<=S)(hS:S<=2^34) :
 a00 prog G0h #[a.val,b.val,c.val] V λv V'=>∃r:NumV,v=r.val/\M00 V' r (e0k x y z):=by
 have s1:=K05 y x; have s2:=a04 z (y-x)
 refine N0g a b c V _ ((e05 hb ha (by omega) (by omega)).mono λv V1 l1 ⟨r1,hv,h1⟩=>⟨r1,hv,?_⟩)
 refine(b02 (hc.le l1) h1 (by omega) (by omega)).mono λv V2 l2 ⟨r2,hv,h2⟩=>⟨r2,hv,?_⟩
 exact(b07 (ha.le (View.le_trans l1 l2)) h2 (by omega) (by omega)).mono λv V3 l3 ⟨r3,hv,h3⟩=>⟨r3,hv,r3,rfl,h3⟩
theorem u0k{V:View}{s:Sl}{l:List Tk}(h:c0a V s l){p:Option Addr}(hp:V.load p=some s.v){t:Nat}{k:Tk}(hk:l[t]?=some k) :
 a00 prog t0b #[.int .i64 (t:Int),.pointer p] V λv V'=>∃r:NumV,v = .tuple #[r.val,.bool (decide (k.place.im=0))]/\M00 V' r k.time:=by
 obtain⟨g,y,hy,_,hs,⟨h1,g1⟩,h2,g2⟩:=e0e h (t:=(t:Int)) (by omega) (k:=k) (by rw[Int.toNat_natCast]; exact hk)
 refine N0e (t:Int) p V _ ⟨s,hp,g,hs,y.time,h1,g1,s,hp,g,hs,y.place,h2,g2,?_⟩
 exact(f05 hy.place).mono λv V1 l1 hv=>⟨_,hv,_,rfl,hy.time.le l1⟩
theorem d0i{V:View}{s:Sl}{l:List Tk}(h:c0a V s l){S:Nat}(hz:∀k∈l,k.szle S)(hS:S<=2^30){p:Option Addr}(hp:V.load p=some s.v) :
 a00 prog J0f #[.int .i64 (s.len:Int),(Fn1.mk p).val t0b] V λv _=>∃r:Int,v = .int .i64 r/\r=W0e l:=by
 have hl:s.len=l.length:=h.len
 refine s07 (s.len:Int) ⟨p⟩ V _ (λ_ _ _=>1<=l.length/\l.length<=4096)
  (λ_ x V'=>∃t:Nat,x.t16=t/\t<=l.length/\(∀k,M0f l t=some k->M00 V' x.o5 k.time/\k.time.im=0)/\ascF none l=ascF ((M0f l t).map λk=>k.time.re) (l.drop t)) (λ_ x _=>l.length-x.t16.toNat) ?_
 rw[hl]
 refine⟨⟨λh0=>⟨_,rfl,?_⟩,λh0=>⟨λh1=>⟨_,rfl,?_⟩,λh1 => ?_⟩⟩,?_⟩
 . unfold W0e; rw[if_pos (.inl (by simpa using h0))]
 . unfold W0e; rw[if_pos (.inr (by simp at h1; omega))]
 . have h0:l.length≠0:=by simpa using h0
   exact⟨by omega,by simp at h1; omega⟩
 rintro⟨u⟩ V1 l1 ⟨hn1,hn2⟩
 refine⟨⟨0,rfl,by omega,λk hk=>by simp[M0f]at hk,rfl⟩,?_⟩
 rw[B0r hn1 hn2]
 rintro⟨t16,o5⟩ V2 l2 ⟨t,et,ht,ho,hE⟩
 dsimp only at et ho ⊢
 subst et
 have L2:=View.le_trans l1 l2
 refine⟨λhlt => ?_,λhge=>⟨_,rfl,?_⟩⟩
 . have hk:t<l.length:=by simp at hlt; omega
   have ek:l[t]?=some l[t]:=List.getElem?_eq_getElem hk
   have hmem:l[t]∈l:=List.getElem_mem hk
   obtain⟨zt,zp⟩:=hz _ hmem
   rw[C0n ek]at hE
   generalize hkk:l[t]=k at *
   refine(u0k (h.le L2) (s03 L2 hp) ek).mono λv V3 l3 ⟨r1,hv,h1⟩=>⟨r1,_,hv,λc=>⟨_,rfl,?_⟩,λc => ?_⟩
   . have c:¬k.place.im=0:=by simpa using c
     rw[hE]; unfold ascF; rw[if_pos (by unfold Tk.real; simp[c])]
   have c:k.place.im=0:=by simpa using c
   refine(f05 h1).mono λv V4 l4 hv=>⟨_,hv,λd=>⟨_,rfl,?_⟩,λd => ?_⟩
   . have d:¬k.time.im=0:=by simpa using d
     rw[hE]; unfold ascF; rw[if_pos (by unfold Tk.real; simp[d])]
   have d:k.time.im=0:=by simpa using d
   have hr:¬k.real=false:=by unfold Tk.real; simp[c,d]
   have step:∀V',View.le V4 V'->(∀q,M0f l t=some q->¬k.time.re<=q.time.re)->(∃t':Nat,i64.wrap ((t:Int)+1)=t'/\t'<=l.length/\(∀k,M0f l t'=some k->M00 V' r1 k.time/\k.time.im=0)/\ascF none l=ascF ((M0f l t').map λk=>k.time.re) (l.drop t'))/\l.length-(i64.wrap ((t:Int)+1)).toNat<l.length-(t:Int).toNat:=by
    intro V' l' hq
    rw[i64w (by omega) (by omega)]
    refine⟨⟨t+1,by omega,by omega,?_,?_⟩,by omega⟩
    . intro k' hk'
      rw[W0i,ek]at hk'
      obtain rfl:=Option.some.inj hk'
      exact⟨h1.le (View.le_trans l4 l'),d⟩
    . rw[hE,W0i,ek]
      conv=>lhs; unfold ascF
      rw[if_neg hr]
      cases hpa:M0f l t with
      | none=>rfl
      | some q =>
        simp only[Option.map_some]
        rw[if_neg (hq q hpa)]
   refine⟨λc0 => ?_,λc0=>step V4 (View.le_refl _) λq hq => ?_⟩
   . have hpos:0<t:=by simp at c0; omega
     have ep:l[t-1]?=some l[t-1]:=List.getElem?_eq_getElem (by omega)
     have hpa:M0f l t=some l[t-1]:=by unfold M0f; rw[if_neg (by omega),ep]
     obtain⟨ho1,ho2⟩:=ho _ hpa
     have zq:=(hz _ (List.getElem_mem (show t-1<l.length by omega))).1
     generalize l[t-1]=q at *
     refine(s08 (h1.le l4) (ho1.le (View.le_trans l3 l4)) (by omega) (by omega)).mono λv V5 l5 hv=>⟨_,hv,λe=>⟨_,rfl,?_⟩,λe=>step V5 l5 λq' hq' => ?_⟩
     . rw[f0k d ho2]at e
       have e:k.time.re<=q.time.re:=by
        rcases g0g k.time.re q.time.re with⟨g,_⟩|⟨g,_⟩|⟨_,g⟩
        . grind
        . grind
        . rw[g]at e; simp at e
       rw[hE,hpa]
       conv=>rhs; unfold ascF
       rw[if_neg hr]
       simp only[Option.map_some]
       rw[if_pos e]
     . rw[hpa]at hq'
       obtain rfl:=Option.some.inj hq'
       rw[f0k d ho2]at e
       rcases g0g k.time.re q.time.re with⟨_,g⟩|⟨_,g⟩|⟨g,_⟩
       . rw[g]at e; simp at e
       . rw[g]at e; simp at e
       . grind
   . have:t=0:=by simp at c0; omega
     subst this
     simp[M0f]at hq
 . have e:t=l.length:=by simp at hge; omega
   subst e
   rw[hE,List.drop_length]; rfl
theorem n0m{V:View}{s:Sl}{l:List Tk}(h:c0a V s l){S:Nat}(hz:∀k∈l,k.szle S)(hS:S<=2^30) :
 a00 prog F0h #[s.v] V λv _=>∃r:Int,v = .int .i64 r/\r=W0e l:=by
 refine O0g s V _ λb1 V1 l1 hb1 => ?_
 have hld:V1.load (some (Addr.mk b1 0 none))=some s.v:=by simp[View.load,hb1]
 exact⟨s,hld,(d0i (h.le l1) hz hS hld).mono λv V2 l2 ⟨r,hv,hr⟩=>⟨r,hv,r,rfl,hr⟩⟩
theorem o0m(z w:Cq) : -1<=z.cmp w/\z.cmp w<=1:=by
 unfold Cq.cmp
 split
 . rcases g0g z.re w.re with⟨_,g⟩|⟨_,g⟩|⟨_,g⟩<;>rw[g]<;>decide
 . rcases g0g z.im w.im with⟨_,g⟩|⟨_,g⟩|⟨_,g⟩<;>rw[g]<;>decide
theorem Q0r{a b:Int}(ha : -1<=a/\a<=1)(hb : -1<=b/\b<=1):i64.wrap (a*b)=a*b:=by
 have h1:a = -1\/a=0\/a=1:=by omega
 have h2:b = -1\/b=0\/b=1:=by omega
 rcases h1 with rfl|rfl|rfl<;>rcases h2 with rfl|rfl|rfl<;>decide
theorem j0q{V:View}{s:Sl}{l:List Tk}(h:c0a V s l)(hn:1<=l.length)(hn2:l.length<=2^40){x:NumV}{p:Cq}(hx:M00 V x p){S:Nat}(hz:∀k∈l,k.szle S)(zp:p.sz<=S)(hS:S<=2^28) :
 a00 prog a0l #[s.v,x.val] V λv V'=>∃(r:NumV) (b:Bool),v = .tuple #[r.val,.bool b]/\b=(I09 p l).isSome/\M00 V' r ((I09 p l).getD Cq.zero):=by
 have hl:s.len=l.length:=h.len
 have ek:l[0]?=some l[0]:=List.getElem?_eq_getElem (by omega)
 obtain⟨g,y,hy,_,hs,⟨h1,g1⟩,h2,g2⟩:=e0e h (t:=0) (by omega) (k:=l[0]) ek
 obtain⟨z1,z2⟩:=hz _ (List.getElem_mem (show 0<l.length by omega))
 have e0:I09 p l=if l[0].place=p then some l[0].time else c0h p l[0] (l.drop 1):=by
  rw[show I09 p l=I09 p (l.drop 0)from rfl,C0n ek]; rfl
 refine Q0j s x V _ (λ_ z _=>∃(i:Nat) (a:Tk),z.t6=i/\1<=i/\i<=l.length/\l[i-1]?=some a/\I09 p l=c0h p a (l.drop i)) (λ_ z _=>l.length-z.t6.toNat) ⟨g,hs,y.place,h2,g2,?_⟩
 refine(j0e hy.place hx (by omega) (by omega)).mono λv V1 l1 hv=>⟨_,hv,λc => ?_,λc=>⟨?_,?_⟩⟩
 . have c:l[0].place=p:=by simpa using c
   rw[e0,if_pos c]
   exact⟨g,hs,y.time,o09 l1 h1,g1,_,_,rfl,rfl,hy.time.le l1⟩
 . have c:¬l[0].place=p:=by simpa using c
   exact⟨1,l[0],rfl,by omega,by omega,ek,by rw[e0,if_neg c]⟩
 rintro⟨t6,o4⟩ V2 l2 ⟨i,a,ei,i1,i2,ea,hE⟩
 dsimp only at ei ⊢
 subst ei
 have L2:=View.le_trans l1 l2
 rw[hl]
 refine⟨λhlt => ?_,λhge => ?_⟩
 . have hk:i<l.length:=by simp at hlt; omega
   rw[i64w (n:=(i:Int)-1) (by omega) (by omega),i64w (n:=(i:Int)+1) (by omega) (by omega)]
   have eb:l[i]?=some l[i]:=List.getElem?_eq_getElem hk
   obtain⟨za1,za2⟩:=hz a (List.mem_of_getElem? ea)
   obtain⟨zb1,zb2⟩:=hz _ (List.getElem_mem hk)
   rw[C0n eb]at hE
   obtain⟨ga,ya,hya,hha,hsa,_⟩:=e0e (h.le L2) (t:=(i:Int)-1) (by omega) (k:=a) (by rw[show((i:Int)-1).toNat=i-1 by omega]; exact ea)
   obtain⟨gb,yb,hyb,hhb,hsb,_⟩:=e0e (h.le L2) (t:=(i:Int)) (by omega) (k:=l[i]) (by rw[Int.toNat_natCast]; exact eb)
   rw[hl]at ga gb
   generalize l[i]=b at *
   have step:c0h p b (l.drop (i+1))=I09 p l->(∃(j:Nat) (a:Tk),((i:Int)+1)=j/\1<=j/\j<=l.length/\l[j-1]?=some a/\I09 p l=c0h p a (l.drop j))/\l.length-((i:Int)+1).toNat<l.length-(i:Int).toNat :=
    λhe=>⟨⟨i+1,b,by omega,by omega,by omega,by rw[Nat.add_sub_cancel]; exact eb,he.symm⟩,by omega⟩
   have eF:I09 p l=if 0<(a.place.cmp p)*(b.place.cmp p)\/a.place=b.place then c0h p b (l.drop (i+1))else some (e0k a.time b.time (N0l p a.place b.place)):=hE
   have hxx:=hx.le L2
   refine⟨ga,ya,hha,hsa,gb,yb,hhb,hsb,(s08 hya.place hxx (by omega) (by omega)).mono λv V3 l3 hv=>⟨_,hv,?_⟩⟩
   refine(s08 (hyb.place.le l3) (hxx.le l3) (by omega) (by omega)).mono λv V4 l4 hv=>⟨_,hv,?_⟩
   rw[Q0r (o0m _ _) (o0m _ _)]
   have L4:=View.le_trans l3 l4
   refine⟨λc=>step ?_,λc=>(j0e (hya.place.le L4) (hyb.place.le L4) (by omega) (by omega)).mono λv V5 l5 hv=>⟨_,hv,λd=>step ?_,λd => ?_⟩⟩
   . rw[eF,if_pos (.inl (by simpa using c))]
   . rw[eF,if_pos (.inr (by simpa using d))]
   have c:¬0<(a.place.cmp p)*(b.place.cmp p):=by
    have:=of_decide_eq_false c
    exact this
   have d:¬a.place=b.place:=by simpa using d
   rw [if_neg (by rintro (g | g)
                  . exact c g
                  . exact d g)]at eF
   have L5:=View.le_trans L4 l5
   have s1:=K05 p a.place; have s2:=K05 b.place a.place
   have s3:=X0i (z:=p-a.place) (w:=b.place-a.place) (S:=2*S+2) (by omega) (by omega)
   refine(P0r (hxx.le L5) (hya.place.le L5) (hyb.place.le L5) zp za2 zb2 (by omega)).mono λv V6 l6 ⟨r5,hv,h5⟩=>⟨r5,hv,?_⟩
   refine(m0m (hya.time.le (View.le_trans L5 l6)) (hyb.time.le (View.le_trans L5 l6)) h5 (S:=8*S+16) (by omega) (by omega) (by show((p-a.place).div (b.place-a.place)).sz<=_; omega) (by omega)).mono λv V7 l7 ⟨r6,hv,h6⟩=>⟨r6,hv,?_⟩
   rw[eF]
   exact⟨_,_,rfl,rfl,h6⟩
 . have e:i=l.length:=by simp at hge; omega
   subst e
   rw[List.drop_length]at hE
   rw[hE]
   exact⟨_,_,rfl,rfl,M00.zero V2⟩
theorem S0r{V:View}{s:Sl}{l:List Tk}(h:c0a V s l){x:NumV}{p:Cq}(hx:M00 V x p){S:Nat}(hz:∀k∈l,k.szle S)(zp:p.sz<=S)(hS:S<=2^28) :
 a00 prog O0m #[s.v,x.val] V λv V'=>∃r:NumV,v = .tuple #[r.val,.int .i64 (P0l p l)]/\M00 V' r (Q0l p l):=by
 have nil:∀(e:Int) (V':View),P0l p l=e->Q0l p l=Cq.zero->∃r:NumV,Value.tuple #[zN.val,.int .i64 e]=Value.tuple #[r.val,.int .i64 (P0l p l)]/\M00 V' r (Q0l p l):=λe V' he h0=>by
  rw[he,h0]; exact⟨_,rfl,M00.zero V'⟩
 refine B0l s x V _ ((n0m h hz (by omega)).mono λv V1 l1 ⟨r1,hv,e1⟩=>⟨r1,hv,λc => ?_,λc => ?_⟩)
 . have c:W0e l≠0:=by rw[<-e1]; simpa using c
   exact nil _ V1 (by unfold P0l; rw[if_neg c,e1]) (by unfold Q0l; rw[if_neg (by rintro⟨g,_⟩; exact c g)])
 have c:W0e l=0:=by rw[<-e1]; simpa using c
 obtain⟨n1,n2,asc⟩:=A0r c
 refine(f05 (hx.le l1)).mono λv V2 l2 hv=>⟨_,hv,λd => ?_,λd => ?_⟩
 . have d:¬p.im=0:=by simpa using d
   exact nil _ V2 (by unfold P0l; rw[if_pos c,if_neg d]) (by unfold Q0l; rw[if_neg (by rintro⟨_,g⟩; exact d g)])
 have d:p.im=0:=by simpa using d
 have eE:P0l p l=if(I09 p l).isSome=true then 0 else 5:=by unfold P0l; rw[if_pos c,if_pos d]
 have eV:Q0l p l=(I09 p l).getD Cq.zero:=by unfold Q0l; rw[if_pos ⟨c,d⟩]
 have L2:=View.le_trans l1 l2
 refine(j0q (h.le L2) n1 (by omega) (hx.le L2) hz zp hS).mono λv V3 l3 ⟨r3,b,hv,hb,h3⟩=>⟨r3,b,hv,λf => ?_,λf => ?_⟩
 . have f:b=false:=by simpa using f
   rw[f]at hb
   refine nil 5 V3 (by rw[eE,<-hb]; rfl) ?_
   rw[eV]
   cases hq:I09 p l with
   | none=>rfl
   | some w=>rw[hq]at hb; simp at hb
 . have f:b=true:=by simpa using f
   rw[f]at hb
   rw[eE,eV,<-hb]
   exact⟨r3,rfl,h3⟩
def ms0:List Mk:=[⟨0,0,P3.zero⟩,⟨1,0,⟨intQ 2,Cq.zero,Cq.zero⟩⟩,⟨0,1,⟨intQ 1,intQ 3,Cq.zero⟩⟩]
def ts0:List Tk:=[⟨Cq.zero,Cq.zero⟩,⟨intQ 10,intQ 5⟩]
theorem J0n:fitE ms0=0:=by decide +kernel
theorem L0s:(if(fitF ms0).real=true then dotP (fitF ms0).u (fitF ms0).v else Cq.zero)=intQ 2:=by decide +kernel
theorem M0s:(fitF ms0).real=true:=by decide +kernel
theorem N0s:P0l (intQ 3) ts0=0:=by decide +kernel
theorem P0u:Q0l (intQ 3) ts0=intQ 6:=by decide +kernel
theorem j0v:((cqS (intQ 2)).toList==(ByteArray.mk #[50]).toList)=true:=by decide +kernel
theorem k0v:((cqS (intQ 6)).toList==(ByteArray.mk #[54]).toList)=true:=by decide +kernel
theorem Z0i{V:View}{n:Int}(h0 : -9223372036854775808<=n)(h1:n<=9223372036854775807) :
 a00 prog B0g #[.int .i64 n] V λv V'=>∃r:NumV,v=r.val/\M00 V' r (intQ n):=a07 h0 h1
theorem W0t{V:View}:a00 prog o0f #[.int .i64 4,.int .i64 2] V λv _=>v = .tuple #[.int .i64 (-2),.int .i64 0]:=by
 have h1:a00 prog P0d #[.int .i64 4] V λv _=>v = .bool true :=
  c0d 4 V _ ⟨λ_=>⟨λ_=>rfl,λh=>absurd h (by decide)⟩,λh=>absurd h (by decide)⟩
 refine X0d 4 2 V _ (h1.mono λv V1 _ hv=>⟨_,hv,λh=>absurd h (by decide),λ_=>⟨λh=>absurd h (by decide),λ_=>⟨λh=>absurd h (by decide),λ_ => ?_⟩⟩⟩)
 exact(W0d 4 2 V1 (λv _=>v = .int .i64 (-2)) ⟨λh=>absurd h (by decide),λ_=>rfl⟩).mono λv V2 _ hv=>⟨_,hv,rfl⟩
theorem w0k{V:View}:a00 prog e08 #[] V λv _=>v = .bool true:=by
 refine G0b V _ ((Z0i (by omega) (by omega)).mono λv V1 l1 ⟨r1,hv,h1⟩=>⟨r1,hv,?_⟩)
 refine(Z0i (by omega) (by omega)).mono λv V2 l2 ⟨r2,hv,h2⟩=>⟨r2,hv,?_⟩
 refine(Z0i (by omega) (by omega)).mono λv V3 l3 ⟨r3,hv,h3⟩=>⟨r3,hv,λb1 V4 l4 _ hb1 => ?_⟩
 have hz4:M00 V4 zN Cq.zero:=M00.zero V4
 have hM:k0h V4 (Sl.mk (some (Addr.mk b1 0 none)) 3 3) ms0:=by
  refine t00.of_block (V:=V4) (sz:=17) (P:=g0q) (zs:=ms0) (o:=(I0e.mk 0 0 ⟨zN,zN,zN⟩).val.cells.toList++((I0e.mk 1 0 ⟨r1,zN,zN⟩).val.cells.toList++(I0e.mk 0 1 ⟨r2,r3,zN⟩).val.cells.toList)) (o':=[]) (b:=b1) (λ_=>by rw[List.append_nil]; exact hb1) ?_ rfl (Nat.le_refl _) (λ_=>rfl)
  exact⟨_,_,rfl,rfl,⟨_,rfl,rfl,rfl,hz4,hz4,hz4⟩,_,_,rfl,rfl,⟨_,rfl,rfl,rfl,h1.le (View.le_trans l2 (View.le_trans l3 l4)),hz4,hz4⟩,_,[],by rw[List.append_nil],rfl,⟨_,rfl,rfl,rfl,h2.le (View.le_trans l3 l4),h3.le l4,hz4⟩,rfl⟩
 have s0:∀m∈ms0,m.in64/\m.p.szle 1100:=by
  have z0:Cq.zero.sz<=64:=by decide +kernel
  have i0:∀n:Int,-9223372036854775808<=n/\n<=9223372036854775807->(intQ n).sz<=1100:=λn h=>Nat.le_trans (W06 h) (by omega)
  intro m hm
  simp only[ms0,List.mem_cons,List.not_mem_nil,or_false]at hm
  rcases hm with rfl|rfl|rfl
  . exact⟨⟨⟨by decide,by decide⟩,⟨by decide,by decide⟩⟩,Nat.le_trans z0 (by omega),Nat.le_trans z0 (by omega),Nat.le_trans z0 (by omega)⟩
  . exact⟨⟨⟨by decide,by decide⟩,⟨by decide,by decide⟩⟩,i0 2 (by omega),Nat.le_trans z0 (by omega),Nat.le_trans z0 (by omega)⟩
  . exact⟨⟨⟨by decide,by decide⟩,⟨by decide,by decide⟩⟩,i0 1 (by omega),i0 3 (by omega),Nat.le_trans z0 (by omega)⟩
 refine(K0s hM (λm hm=>(s0 m hm).1) (λm hm=>(s0 m hm).2)).mono λv V5 l5 ⟨r4,hv,h4,hsz⟩=>⟨r4,_,hv,?_⟩
 rw[J0n]at h4
 simp only[if_true]at h4
 refine(M0r h4 (hsz J0n) (by omega)).mono λv V6 l6 ⟨r6,hv,h6⟩=>⟨r6,_,hv,?_⟩
 rw[L0s]at h6
 refine(Z0i (by omega) (by omega)).mono λv V7 l7 ⟨r8,hv,h8⟩=>⟨r8,hv,?_⟩
 refine(Z0i (by omega) (by omega)).mono λv V8 l8 ⟨r9,hv,h9⟩=>⟨r9,hv,λb2 V9 l9 _ hb2 => ?_⟩
 have hz9:M00 V9 zN Cq.zero:=M00.zero V9
 have hT:c0a V9 (Sl.mk (some (Addr.mk b2 0 none)) 2 2) ts0:=by
  refine t00.of_block (V:=V9) (sz:=10) (P:=c0q) (zs:=ts0) (o:=(J0e.mk zN zN).val.cells.toList++(J0e.mk r8 r9).val.cells.toList) (o':=[]) (b:=b2) (λ_=>by rw[List.append_nil]; exact hb2) ?_ rfl (Nat.le_refl _) (λ_=>rfl)
  exact⟨_,_,rfl,rfl,⟨_,rfl,hz9,hz9⟩,_,[],by rw[List.append_nil],rfl,⟨_,rfl,h8.le (View.le_trans l8 l9),h9.le l9⟩,rfl⟩
 refine(Z0i (by omega) (by omega)).mono λv V10 l10 ⟨r10,hv,h10⟩=>⟨r10,hv,?_⟩
 have t0:∀k∈ts0,k.szle 64:=by
  have z0:Cq.zero.sz<=64:=by decide +kernel
  intro k hk
  simp only[ts0,List.mem_cons,List.not_mem_nil,or_false]at hk
  rcases hk with rfl|rfl
  . exact⟨z0,z0⟩
  . exact⟨W06 (by omega),W06 (by omega)⟩
 refine(S0r (S:=64) (hT.le l10) h10 t0 (W06 (by omega)) (by omega)).mono λv V11 l11 ⟨r11,hv,h11⟩=>⟨r11,_,hv,?_⟩
 rw[P0u]at h11
 refine W0t.mono λv V12 l12 hv=>⟨_,_,hv,λ_=>⟨λ_ => ?_,λh => ?_⟩,λh => ?_⟩
 . have L12:=View.le_trans l7 (View.le_trans l8 (View.le_trans l9 (View.le_trans l10 (View.le_trans l11 l12))))
   have i2:(intQ 2).sz<=2^40:=Nat.le_trans (W06 (by omega)) (by omega)
   have i6:(intQ 6).sz<=2^40:=Nat.le_trans (W06 (by omega)) (by omega)
   refine(o0b (h6.le L12) i2).mono λv V13 l13 hv=>⟨_,hv,λ_=>⟨λ_ => ?_,λh => ?_⟩,λh => ?_⟩
   . refine(o0b (h11.le (View.le_trans l12 l13)) i6).mono λv V14 _ hv=>⟨_,hv,λ_=>⟨λ_=>rfl,λh=>absurd h (by decide)⟩,λh => ?_⟩
     rw[k0v]at h; exact absurd h (by decide)
   . rw[N0s]at h; exact absurd h (by decide)
   . rw[j0v]at h; exact absurd h (by decide)
 . rw[if_pos M0s]at h; exact absurd h (by decide)
 . rw[J0n]at h; exact absurd h (by decide)
theorem N0a{V:View}{s:Sl}{N:Nat}(h:B00 V s N)(hb:bl N<=2^42) :
 a00 prog I07 #[s.v] V λv _=>v = .string (decS N):=by
 have hz:=h.len_zero
 have hlow:=U0e N
 refine P0g s V _
  (λ_ x V'=>∃(X:Nat) (dl:List Nat),B00 V' x.t0 X/\X<=N/\K02 1 x.t3l x.t3c x.o3 (digC dl)/\x.t3l=dl.length/\low N=dl++low X) (λ_ x V'=>d0d V' x.t0)
  (λc x V'=>∃(q r k:Nat) (dl:List Nat),B00 V' c.t4 q/\q<=N/\x.t5=(r:Int)/\x.t6=(k:Int)/\k<=9/\r<10^(9-k)/\K02 1 x.t3l x.t3c x.o3 (digC dl)/\x.t3l=dl.length/\low N=dl++low (q*10^(9-k)+r)) (λ_ x _=>(9-x.t6).toNat)
  (λc x _=>∃(i j:Nat) (w:List Value),x.t7=(i:Int)/\x.t8=(j:Int)/\j+i=c.t3l-1/\(i<=j+1)/\x.o3=revI w c.t3l i/\K02 1 c.t3l c.t3c w (digC (low N))/\c.t3l=(low N).length) (λ_ x _=>(x.t8-x.t7+2).toNat)
  ⟨λh0 => ?_,λh0=>⟨⟨N,[],h,Nat.le_refl _,K02.nil,rfl,rfl⟩,?_⟩⟩
 . have:s.len=0:=by have:(s.len:Int)=0:=(by simpa using h0); omega
   rw[hz.1 this,K0l]
 have hN0:N≠0:=by
  intro e; rw[<-hz]at e; rw[e]at h0; simp at h0
 rintro⟨t0,n,c,o⟩ V1 l1 ⟨X,dl,hX,hXN,hlo,hn,hval⟩
 dsimp only at hX hlo hn ⊢
 have hXz:=hX.len_zero
 refine⟨λhp => ?_,λhp => ?_⟩
 . simp only[gt_iff_lt,decide_eq_true_eq]at hp
   have hX0:X≠0:=λe=>by rw[<-hXz]at e; omega
   have hbX:bl X<=2^42:=Nat.le_trans (d0c hXN) hb
   refine(L09 (d:=1000000000) hX (U0g (by omega)) (by omega) (by omega)).mono λv V2 l2 ⟨r1,hv,h1⟩=>⟨r1,_,hv,⟨X / 1000000000,X%1000000000,0,dl,h1,Nat.le_trans (Nat.div_le_self _ _) hXN,rfl,rfl,by omega,?_,hlo,hn,?_⟩,?_⟩
   . exact Nat.mod_lt _ (by omega)
   . have:X / 1000000000*10^(9-0)+X%1000000000=X:=by
       rw[show(10:Nat)^(9-0)=1000000000 by decide]; omega
     rw[this]; exact hval
   rintro⟨n3,c3,r3,k3,o3⟩ V3 l3 ⟨q,r,k,dl3,hq,hqN,rfl,rfl,hk,hr,hlo3,hn3,hval3⟩
   dsimp only at hq hlo3 hn3 ⊢
   have hqe:=hq.inj (h1.le l3)
   have hlt9:r<1000000000:=Nat.lt_of_lt_of_le hr (by
    have:(10:Nat)^(9-k)<=10^9:=Nat.pow_le_pow_right (by omega) (by omega)
    exact Nat.le_trans this (by decide))
   have hl3:dl3.length<=2^42:=by
    have:=congrArg List.length hval3
    rw[List.length_append]at this; omega
   have hqz:=hq.len_zero
   have step:(q≠0\/r≠0)->k<9->∀(b1:Nat) (V4:View),V3.le V4->View.Fin V4->V4 b1=some #[.int .u8 (u8.wrap (u32.wrap (48+(Int.tmod (r:Int) 10))))] ->
    ∃(l1:List Value) (l2:List Value),K02 1 n3 c3 o3 l1/\View.has V4 (some (Addr.mk b1 0 none)) l2/\List.length l2=1*1/\(∀v∈l2,Value.oneCell' v=true)/\n3+1<=maxLen/\(n3+1)*1<=140737488355328 /\
    ∀(c1:Nat) (l3:List Value),K02 1 (n3+1) c1 l3 (l1++l2) ->
    (∃(q' r' k':Nat) (dl:List Nat),B00 V4 r1 q'/\q'<=N/\(u32.wrap (Int.tdiv (r:Int) 10))=(r':Int)/\(i64.wrap ((k:Int)+1))=(k':Int)/\k'<=9/\r'<10^(9-k')/\K02 1 (n3+1) c1 l3 (digC dl)/\n3+1=dl.length/\low N=dl++low (q'*10^(9-k')+r'))/\(9-(i64.wrap ((k:Int)+1))).toNat<(9-(k:Int)).toNat:=by
    intro hne hk9 b1 V4 l4 _ hb1
    rw[N0u]at hb1
    have hrr:r / 10<10^(9-(k+1)):=by
     have:10^(9-k)=10^(9-(k+1))*10:=by rw[<-Nat.pow_succ]; congr 1; omega
     omega
    have hst:=q0o (q:=q) (r:=r) (k:=9-(k+1)) hne
    rw[show 9-(k+1)+1=9-k by omega]at hst
    refine⟨digC dl3,[.int .u8 ((48+r%10:Nat):Int)],hlo3,X0l hb1,rfl,oneC _,Nat.le_trans (show n3+1<=2^43 by omega) (by decide),by omega,λc1 l3' hl3'=>⟨⟨q,r / 10,k+1,dl3++[r%10],hq.le l4,hqN,u32q (by omega),by rw[i64w (by omega) (by omega)]; omega,hk9,hrr,?_,by simp[hn3],?_⟩,by rw[i64w (by omega) (by omega)]; omega⟩⟩
    . rw[<-b0h]; exact hl3'
    . rw[hval3,hst]; simp
   have stop:(k=9\/q=0/\r=0)->(∃(X:Nat) (dl:List Nat),B00 V3 r1 X/\X<=N/\K02 1 n3 c3 o3 (digC dl)/\n3=dl.length/\low N=dl++low X)/\d0d V3 r1<d0d V1 t0:=by
    intro hs
    refine⟨⟨q,dl3,hq,hqN,hlo3,hn3,?_⟩,?_⟩
    . rcases hs with rfl|⟨rfl,rfl⟩
      . have:r=0:=by simp at hr; omega
        subst this
        simpa using hval3
      . simpa using hval3
    . rw[o08 hq,o08 hX,hqe]
      omega
   refine⟨λhk9=>⟨λhr1=>⟨λ_=>step (.inr ?_) (by have:(k:Int)<9:=(by simpa using hk9); omega),λh=>absurd h (by simp)⟩,λhr1=>⟨λhq1=>step (.inl ?_) (by have:(k:Int)<9:=(by simpa using hk9); omega),λhq1=>stop (.inr ⟨?_,?_⟩)⟩⟩,λhk9=>⟨λh=>absurd h (by simp),λ_=>stop (.inl ?_)⟩⟩
   . simp only[gt_iff_lt,decide_eq_true_eq]at hr1; omega
   . simp only[gt_iff_lt,decide_eq_true_eq]at hq1
     intro e; rw[<-hqz]at e; omega
   . simp only[gt_iff_lt,decide_eq_false_iff_not]at hq1; exact hqz.1 (by omega)
   . simp only[gt_iff_lt,decide_eq_false_iff_not]at hr1; omega
   . simp only[decide_eq_false_iff_not]at hk9; omega
 . simp only[gt_iff_lt,decide_eq_false_iff_not]at hp
   have hX0:X=0:=hXz.1 (by omega)
   rw[hX0,d0g,List.append_nil]at hval
   subst hval
   have hd0:low N≠[]:=by rw[a0h hN0]; simp
   have hl0:0<(low N).length:=List.length_pos_iff.2 hd0
   have hle:=hlo.le
   have hol:=hlo.len
   rw[Nat.mul_one]at hol
   refine⟨⟨by intro e; rw[e]at hol; simp at hol; omega,⟨by omega,trivial⟩,trivial⟩,⟨0,n-1,o,rfl,?_,by omega,by omega,(L0l o n).symm,hlo,hn⟩,?_⟩
   . show i64.wrap ((n:Int)-1)=_
     rw[i64w (by omega) (by omega)]; omega
   rintro⟨t7,t8,o7⟩ V7 l7 ⟨i,j,w,rfl,rfl,hij,hi,rfl,hw,_⟩
   dsimp only at hij hw ⊢
   have hwt:=hw.take
   have hwl:=hw.len
   rw[Nat.mul_one]at hwt hwl
   have htl:n<=w.length:=by omega
   have g:∀p,p<n->w[p]?=some (.int .u8 (((48+(low N).getD p 0:Nat):Nat):Int)):=by
    intro p hp'
    rw[<-List.getElem?_take_of_lt hp',hwt]
    exact C0o (by omega)
   have gd:∀p,p<n->w.getD p undef = .int .u8 (((48+(low N).getD p 0:Nat):Nat):Int):=λp hp=>by simp only[List.getD]; rw[g p hp]; rfl
   refine⟨λhlt => ?_,λhge => ?_⟩
   . simp only[decide_eq_true_eq]at hlt
     have hij':i<j:=by omega
     rw[i64w (n:=(i:Int)+1) (by omega) (by omega),i64w (n:=(j:Int)-1) (by omega) (by omega)]
     simp only[Int.toNat_natCast,Nat.mul_one,Nat.zero_add]
     refine⟨⟨by omega,by omega⟩,((48+(low N).getD j 0:Nat):Int),?_,⟨by omega,by omega⟩,((48+(low N).getD i 0:Nat):Int),?_,⟨by omega,by omega⟩,by rw[k05]; omega,⟨by omega,by omega⟩,by rw[List.length_set,k05]; omega,⟨i+1,j-1,w,by omega,by omega,by omega,by omega,?_,hw,hn⟩,by omega⟩
     . rw[f0g (by omega) (by omega) (by omega),gd j (by omega)]
     . rw[f0g (by omega) (by omega) (by omega),gd i (by omega)]
     . have:=M0l (o:=w) htl hij hij'
       rw[gd i (by omega),gd j (by omega)]at this
       exact this
   . simp only[decide_eq_false_iff_not]at hge
     intro b4 V8 l8 hb4
     have ht10:=t0o (i:=i) htl (by omega)
     rw[hwt,u0o hN0]at ht10
     refine⟨decL N,?_,by rw[k0b hN0]; omega,rfl,rfl⟩
     intro j' v hj
     have hjl:j'<n:=by
      rcases Nat.lt_or_ge j' n with h|h
      . exact h
      . rw[List.getElem?_eq_none (by simp[k0b hN0]; omega)]at hj; simp at hj
     rw[G07 hb4]
     rw[<-ht10,List.getElem?_take_of_lt hjl]at hj
     simpa using hj
theorem O0s{V:View}{s:Sl}{n:Nat}(h:B00 V s n)(hl:s.len=1):((dig n).getD 0 0=1)↔n=1:=by
 have h2:=h.len
 rw[hl]at h2
 have h3:=x01 n
 obtain⟨w,hw⟩:∃w,dig n=[w]:=List.length_eq_one_iff.1 h2.symm
 rw[hw]at h3 ⊢
 simp[wval]at h3 ⊢
 omega
theorem M05{V:View}{x:WhV}{s:Sl}{a:Int}{d:Nat}(hx:Z02 V x a)(hs:B00 V s d)(hd:d≠0)(ha:bl a.natAbs<=2^41)(hdb:bl d<=2^41) :
 a00 prog d0n #[x.val,s.v] V λv _=>v = .string (ratT a d):=by
 obtain⟨b1,b2⟩:=n0k (a:=a) hd
 obtain⟨e1,e2,e3⟩:=i0m (a:=a) hd
 have s1:=K0a (y05 a d).A.natAbs
 have s2:=K0a (y05 a d).D
 have hmax:i64.max=9223372036854775807:=by decide
 have z1:(ByteArray.mk #[45]).size=1:=rfl
 have z2:(ByteArray.mk #[47]).size=1:=rfl
 have hg0:0<Nat.gcd a.natAbs d:=Nat.gcd_pos_of_pos_right _ (by omega)
 refine C0l x s V _ ((C08 hx.2 hs (U0g (by omega)) (U0g (by omega))).mono λv V1 l1 ⟨r1,hv,h1⟩=>⟨r1,hv,?_⟩)
 refine(Q04 (hx.2.le l1) h1 (U0g (by omega)) (by omega)).mono λv V2 l2 ⟨q1,m1,hv,h2,_⟩=>⟨q1,m1,hv,?_⟩
 refine(Q04 (hs.le (View.le_trans l1 l2)) (h1.le l2) (U0g (by omega)) (by omega)).mono λv V3 l3 ⟨q2,m2,hv,h3,_⟩=>⟨q2,m2,hv,?_⟩
 rw[<-e1]at h2
 rw[<-e2]at h3
 refine(N0a (h2.le l3) (by omega)).mono λv V4 l4 hv=>⟨_,hv,?_⟩
 have h3':=h3.le l4
 have hn:=hx.1
 have one:q2.len=1->(((0:Int)<=0/\(0:Int)<(q2.len:Nat)/\Option.isSome q2.a=true)/\View.load V4 (Option.map (λq=>Addr.add q (Int.toNat 0*1)) q2.a)=some (.int .u32 (((dig (y05 a d).D).getD (Int.toNat 0) 0:Nat):Int))):=λhl =>
  ⟨⟨by omega,by omega,h3'.isSome (by omega)⟩,h3'.get (by omega) (by omega)⟩
 have ne1:(y05 a d).D=1->q2.len=1:=λe=>by rw[e]at h3'; have:=h3'.len; rw[I0n]at this; exact this
 have rest:∀(pre:ByteArray),pre.size<=2^42+2->(y05 a d).D≠1->ratT a d=pre++(e0g++decS (y05 a d).D) ->
  ((ByteArray.size pre+ByteArray.size (ByteArray.mk #[47]):Nat):Int)<=i64.max /\
  a00 prog I07 #[q2.v] V4 λv V5=>∃r7:ByteArray,v = .string r7 /\
  ((ByteArray.size (pre++(ByteArray.mk #[47]))+ByteArray.size r7:Nat):Int)<=i64.max /\
  Value.string ((pre++(ByteArray.mk #[47]))++r7)=Value.string (ratT a d):=by
  intro pre hp h1 he
  refine⟨by rw[z2,hmax]; omega,(N0a h3' (by omega)).mono λv V5 l5 hv=>⟨_,hv,by rw[N04,z2,hmax]; omega,?_⟩⟩
  rw[he,j0b]; rfl
 have tail:∀(pre:ByteArray),pre.size<=2^42+2->((y05 a d).D=1->ratT a d=pre)->((y05 a d).D≠1->ratT a d=pre++(e0g++decS (y05 a d).D)) ->
  ((((q2.len:Int):Int)==1)=true ->
  ((0:Int)<=0/\(0:Int)<(q2.len:Nat)/\Option.isSome q2.a=true) /\
  ∃x1:Int,View.load V4 (Option.map (λq=>Addr.add q (Int.toNat 0*1)) q2.a)=some (.int .u32 x1) /\
  (((x1:Int)==1)=true->Value.string pre=Value.string (ratT a d)) /\
  (((x1:Int)==1)=false ->
    ((ByteArray.size pre+ByteArray.size (ByteArray.mk #[47]):Nat):Int)<=i64.max /\
    a00 prog I07 #[q2.v] V4 λv V5=>∃r7:ByteArray,v = .string r7 /\
    ((ByteArray.size (pre++(ByteArray.mk #[47]))+ByteArray.size r7:Nat):Int)<=i64.max /\
    Value.string ((pre++(ByteArray.mk #[47]))++r7)=Value.string (ratT a d))) /\
  ((((q2.len:Int):Int)==1)=false ->
  (false=true->Value.string pre=Value.string (ratT a d)) /\
  (false=false ->
    ((ByteArray.size pre+ByteArray.size (ByteArray.mk #[47]):Nat):Int)<=i64.max /\
    a00 prog I07 #[q2.v] V4 λv V6=>∃r8:ByteArray,v = .string r8 /\
    ((ByteArray.size (pre++(ByteArray.mk #[47]))+ByteArray.size r8:Nat):Int)<=i64.max /\
    Value.string ((pre++(ByteArray.mk #[47]))++r8)=Value.string (ratT a d))):=by
  intro pre hp he hne
  refine⟨λhl => ?_,λhl=>⟨λh=>absurd h (by simp),λ_ => ?_⟩⟩
  . have hl:q2.len=1:=by have:(q2.len:Int)=1:=(by simpa using hl); omega
    obtain⟨g1,g2⟩:=one hl
    have hw:=O0s h3' hl
    refine⟨g1,_,g2,λh => ?_,λh => ?_⟩
    . have:(((dig (y05 a d).D).getD 0 0:Nat):Int)=1:=of_decide_eq_true (by rw[<-h]; rfl)
      rw[he (hw.1 (by omega))]
    . have:¬(((dig (y05 a d).D).getD 0 0:Nat):Int)=1:=of_decide_eq_false (by rw[<-h]; rfl)
      have h1:(y05 a d).D≠1:=λe=>this (by have:=hw.2 e; omega)
      exact rest pre hp h1 (hne h1)
  . have h1:(y05 a d).D≠1:=λe=>by rw[ne1 e]at hl; simp at hl
    exact rest pre hp h1 (hne h1)
 refine⟨λhneg=>⟨by rw[z1,hmax]; omega,tail _ (by rw[N04,z1]; omega) (λe => ?_) (λe => ?_)⟩,λhneg=>tail _ (by omega) (λe => ?_) (λe => ?_)⟩
 all_goals
  rw[hneg]at hn
  unfold ratT ratS
 . have hn:(y05 a d).A<0:=e3.2 (of_decide_eq_true hn.symm)
   simp only[hn,e,if_true]; rfl
 . have hn:(y05 a d).A<0:=e3.2 (of_decide_eq_true hn.symm)
   simp only[hn,e,if_true,if_false]; rfl
 . have hn:¬(y05 a d).A<0:=λh=>(of_decide_eq_false hn.symm) (e3.1 h)
   simp only[hn,e,if_true,if_false]
 . have hn:¬(y05 a d).A<0:=λh=>(of_decide_eq_false hn.symm) (e3.1 h)
   simp only[hn,e,if_false]
theorem e0i{V:View}{x:NumV}{z:Cq}(hx:QAt V x z)(hz:z.sz<=2^40):a00 prog Y0m #[x.val] V λv _=>v = .string (cqS z):=by
 have zA:=z.szA; have zB:=z.szB; have zD:=z.szD
 have hD:=z.D_pos
 have t1:=p0e (a:=z.A) hD
 have t2:=p0e (a:=z.B) hD
 have hmax:i64.max=9223372036854775807:=by decide
 have z1:(ByteArray.mk #[105]).size=1:=rfl
 have z2:(ByteArray.mk #[43]).size=1:=rfl
 have hA0:=q0c hx.re
 have hB0:=q0c hx.im
 rw[g0t]
 refine D0l x V _ ⟨λhr => ?_,λhr=>⟨λhA => ?_,λhA => ?_⟩⟩
 . have hB:z.B=0:=hB0.1 ((lenT _).1 hr)
   rw[if_pos hB]
   exact(M05 hx.re hx.under hD (by omega) (by omega)).mono λv V3 l3 hv=>⟨_,hv,rfl⟩
 all_goals
  have hB:¬z.B=0:=λe=>by rw[hB0.2 e]at hr; simp at hr
  rw[if_neg hB]
 . have hA:z.A=0:=hA0.1 ((lenT _).1 hA)
   rw[if_pos hA]
   exact(M05 hx.im hx.under hD (by omega) (by omega)).mono λv V3 l3 hv=>⟨_,hv,by rw[z1,hmax]; omega,rfl⟩
 . have hA:¬z.A=0:=λe=>by rw[hA0.2 e]at hA; simp at hA
   have hneg:=hx.im.1
   rw[if_neg hA]
   refine⟨λhn => ?_,λhn => ?_⟩
   . rw[hn]at hneg
     rw[if_pos (of_decide_eq_true hneg.symm)]
     refine(M05 hx.re hx.under hD (by omega) (by omega)).mono λv V3 l3 hv=>⟨_,hv,?_⟩
     refine(M05 (hx.im.le l3) (hx.under.le l3) hD (by omega) (by omega)).mono λv V4 l4 hv=>⟨_,hv,by rw[hmax]; omega,by rw[N04,z1,hmax]; omega,?_⟩
     rw[j0b]; rfl
   . rw[hn]at hneg
     rw[if_neg (of_decide_eq_false hneg.symm)]
     refine(M05 hx.re hx.under hD (by omega) (by omega)).mono λv V3 l3 hv=>⟨_,hv,by rw[z2,hmax]; omega,?_⟩
     refine(M05 (hx.im.le l3) (hx.under.le l3) hD (by omega) (by omega)).mono λv V4 l4 hv=>⟨_,hv,by rw[N04,z2,hmax]; omega,by rw[N04,N04,z1,z2,hmax]; omega,?_⟩
     rw[j0b,j0b]; rfl
theorem p0m{V:View}{x y:NumV}{z:Cq}(hx:M00 V x z)(hy:QAt V y z)(hz:z.sz<=2^40):a00 prog O0q #[x.val,y.val] V λv _=>v = .bool true:=by
 refine U0p x y V _ ((o0b hx hz).mono λv V1 l1 hv=>⟨_,hv,(e0i (hy.le l1) hz).mono λv V2 l2 hv=>⟨_,hv,?_⟩⟩)
 rw[beq_self_eq_true]
theorem a0f{V:View}{x y:NumV}{z:Cq}(hx:M00 V x z)(hy:QZ V y z)(hz:z.sz<=2^40):a00 prog M0d #[x.val,y.val] V λv _=>v = .bool true:=by
 refine p0d x y V _ ⟨λh0 => ?_,λh0 => ?_⟩
 . rcases hy with hy|⟨_,e⟩
   . have h1:=hy.under.len_zero.1 (by simpa using h0)
     have:=z.D_pos
     omega
   . exact(f0a hx hz).mono λv V1 _ hv=>⟨_,hv,by rw[e]; rfl⟩
 . rcases hy with hy|⟨e,_⟩
   . exact(p0m hx hy hz).mono λv V1 _ hv=>⟨_,hv,rfl⟩
   . rw[e]at h0; exact absurd h0 (by decide)
end Go.Proofs.YtblaagclfalaaaaGreat
namespace Go.Proofs.YtblaagclfalaaaaGreat
open Go Go.Vc Go.Proofs Go.ChangeShapes Go.RowKit
abbrev i3(fs:List FK):List FK := .int .i64 :: .int .i64 :: .int .i64::fs
theorem X0t{fs:List FK}{cs:List Value}(h:l0e (i3 fs) cs) :
 ∃(r:RatV) (cs':List Value),cs = .int .i64 r.re :: .int .i64 r.im :: .int .i64 r.den::cs'/\ratI r/\l0e fs cs':=by
 cases cs with
 | nil=>exact h.elim
 | cons x cs =>
   obtain⟨⟨a,e1,w1⟩,h⟩:=h
   cases cs with
   | nil=>exact h.elim
   | cons y cs =>
     obtain⟨⟨b,e2,w2⟩,h⟩:=h
     cases cs with
     | nil=>exact h.elim
     | cons z cs =>
       obtain⟨⟨c,e3,w3⟩,h⟩:=h
       exact⟨⟨a,b,c⟩,cs,by rw[e1,e2,e3],⟨bounds_i64 w1,bounds_i64 w2,bounds_i64 w3⟩,h⟩
theorem T0r{cs:List Value}(h:l0e [] cs):cs=[]:=by
 cases cs with
 | nil=>rfl
 | cons _ _=>exact h.elim
section
variable {H:Type} {enc:TypeId×Value->H} {P:Program} {w:World} {base:Nat} {spare:Nat->Bool} {held:Bool} {t:TypeId} {v:Value} {dd:DataW H} {ps:List MemPlace}
end
section
variable {H:Type} {enc:TypeId×Value->H} {P:Program} {w:World} {base:Nat} {spare:Nat->Bool} {held:Bool} {t:TypeId} {v:Value} {dd:DataW H} {ps:List MemPlace}
theorem K0n(hk:a0m P 8 t=some (.int .i64 :: .int .i64::i3 (i3 (i3 []))))(h:DataW.Trod enc P w base spare held t v dd ps):∃x:a09,v=x.val/\ratI x.dx/\ratI x.dy/\ratI x.lam:=by
 have g:=F0r hk h
 generalize hcs:v.cells.toList=cs at g
 cases cs with
 | nil=>exact g.elim
 | cons x cs =>
   obtain⟨⟨a,e1,_⟩,g⟩:=g
   cases cs with
   | nil=>exact g.elim
   | cons y cs =>
     obtain⟨⟨b,e2,_⟩,g⟩:=g
     obtain⟨r0,c0,k0,h0,g⟩:=X0t g
     obtain⟨r1,c1,k1,h1,g⟩:=X0t g
     obtain⟨r2,c2,k2,h2,g⟩:=X0t g
     have:=T0r g
     subst this
     refine⟨⟨a,b,r0,r1,r2⟩,b0m (by rw[hcs,e1,e2,k0,k1,k2]<;>rfl) (by rintro⟨⟩),h0,h1,h2⟩
end
end Go.Proofs.YtblaagclfalaaaaGreat
namespace Go.Proofs.YtblaagclfalaaaaGreat
open Go Go.Vc Go.Proofs
theorem x0k{z:Cq}(h:z.im=0):z.cmp Cq.zero=cmpR z.re 0:=f0k h rfl
theorem n0h{x:Rat}:cmpR x 0<=0↔¬0<x:=by
 unfold cmpR
 by_cases c:x<0
 . rw[if_pos c]
   exact⟨λ_ g=>by grind,λ_=>by decide⟩
 . rw[if_neg c]
   by_cases d:x=0
   . rw[if_pos d]; exact⟨λ_ g=>by grind,λ_=>by decide⟩
   . rw[if_neg d]; exact⟨λg=>absurd g (by decide),λg=>absurd (show 0<x by grind) g⟩
theorem p0b{V:View}{x:NumV}{z:Cq}(hx:QAt V x z)(hz:z.sz<=2^40):a00 Tryz.prog s0a #[x.val] V λv _=>v = .bool (decide (z.im=0/\0<z.re)):=by
 have side:a00 Tryz.prog c0n #[x.val] V λv _=>v = .int .i64 (cmpR z.im 0) :=
  z0l x V _ ((k0m hx hz).mono λv V1 _ ⟨r,hv,hr⟩=>⟨r,hv,(g0a hr).mono λv V2 _ hv=>⟨_,hv,rfl⟩⟩)
 refine Z09 x V _ (side.mono λv V1 l1 hv=>⟨_,hv,λc => ?_,λc => ?_⟩)
 . have c:cmpR z.im 0=0:=by simpa using c
   have h0:=l0m.1 c
   refine(g0a (hx.le l1)).mono λv V2 _ hv=>⟨_,hv,?_⟩
   congr 1
   have:=n0h (x:=z.re)
   refine decide_eq_decide.2 ⟨λg=>⟨h0,?_⟩,λg => ?_⟩
   . exact Classical.not_not.1 λk=>by have:=this.2 k; omega
   . have:¬cmpR z.re 0<=0:=λk=>(this.1 k) g.2
     omega
 . have c:¬cmpR z.im 0=0:=by simpa using c
   rw[decide_eq_false (λg=>c (l0m.2 g.1))]
theorem l0v{V:View}{o:List Value}{row:List Bool}(h:O01 1 boolC V o row):∀v∈o,Value.oneCell' v=true:=by
 induction row generalizing o with
 | nil=>rw[show o=[]from h]; simp
 | cons z zs ih =>
   obtain⟨x,o',e,hx,hp,ht⟩:=h
   subst e
   intro v hv
   rw[List.mem_append]at hv
   rcases hv with hv|hv
   . exact oneL hp v hv
   . exact ih ht v hv
theorem s0c{m V:View}{s:Sl}{row:List Bool}{o:List Value}(hC:O01 1 boolC V o row)(ho:has2 m V s.a o)(hl:s.len=row.length)(ha:s.a=none->row=[])(hb:row.length<=2^30) :
 Z07 Tryz.prog X05 #[s.v] m V λv m' V'=>∃(r:Sl) (b:Nat),v=r.v/\RowR 1 boolC m' V' r b row/\(row≠[]->m b=none)/\(∀i,i≠b\/row=[]->m' i=m i):=by
 refine N08 m s V _ ⟨trivial,λh => ?_,λh b1 V1 l1 hf hb1 => ?_⟩
 . have e:=ha (by simpa using h)
   exact⟨⟨none,0,0⟩,0,rfl,⟨by rw[e]; rfl,Nat.le_refl _,λ_=>rfl,λh=>absurd e h⟩,λh=>absurd e h,λ_ _=>rfl⟩
 . have hol:=hC.length
   refine⟨[],o,⟨Nat.le_refl _,λh=>by simp at h⟩,.inl (by intro j v hj; simp at hj),by simp,g0d l1 ho,by rw[hol,hl],l0v hC,by unfold maxLen; omega,by omega,λh1 h2=>by omega,λa1 c1 m1 ha1 => ?_⟩
   have hC1:O01 1 boolC V1 o row:=hC.imp (boolC.le l1)
   obtain⟨b,hr,hb2,hm,hm2⟩:=e0j hC1 rfl hl ha1
   exact⟨_,b,rfl,hr,hb2,λi hi=>by
    rcases hi with hi|hi
    . exact hm i hi
    . rw[hm2 hi]⟩
theorem L0n{V:View}{s:Sl}{row:List Bool}(h:t00 1 boolC V s row)(hb:row.length<=2^30) :
 a00 Tryz.prog X05 #[s.v] V λv V'=>∃r:Sl,v=r.v/\t00 1 boolC V' r row:=by
 obtain⟨hl,hc,hn,o,ho,hC⟩:=h
 refine Z07.known (s0c (m:=λ_=>none) hC (.inr ho) hl (λe => ?_) hb) λv m V' V2 l e ap ⟨r,b,hv,hr,_⟩=>⟨r,hv,?_⟩
 . rcases Classical.em (row=[])with g|g
   . exact g
   . have:=hn g; rw[e]at this; simp at this
 . subst e
   exact hr.known (boolC.le (f0f ap)) (λb cs g=>F0f g)
theorem b0f{V:View}{p:Sl}{rows:List (List Bool)}(h:D04 1 boolC V p rows) :
 a00 Tryz.prog U09 #[p.v] V λv V'=>∃g:B05,v = .tuple #[g.val,.int .i64 (E0s rows)]/\D04 1 boolC V' g.rows (d0q rows):=by
 have hl:p.len=rows.length:=h.len
 have bad:∀V':View,d0a rows=false->∃g:B05,Value.tuple #[(B05.mk (Sl.mk none 0 0)).val,.int .i64 4] = .tuple #[g.val,.int .i64 (E0s rows)]/\D04 1 boolC V' g.rows (d0q rows):=λV' e=>by
  refine⟨⟨⟨none,0,0⟩⟩,?_,?_⟩
  . unfold E0s; rw[e]; rfl
  . unfold d0q; rw[e]; exact t00.nil
 refine w09 p V _ (λ_ _ _=>1<=rows.length/\rows.length<=64)
  (λ_ x V'=>∃(t:Nat) (l:List Value),x.t18=t/\t<=rows.length/\K02 1 x.o4_0l x.o4_0c x.o45 l/\x.o4_0l=t/\O01 1 (λV x row=>∃s:Sl,x=[s.v]/\t00 1 boolC V s row) V' l (rows.take t)/\∀row∈rows.take t,f0e (i0c rows) row=true)
  (λ_ x _=>rows.length-x.t18.toNat) ?_
 rw[hl]
 refine⟨⟨λc=>bad V ?_,λc=>⟨λc'=>bad V ?_,λc' => ?_⟩⟩,?_⟩
 . unfold d0a
   have c:=of_decide_eq_true c
   have:decide (1<=rows.length)=false:=decide_eq_false (by omega)
   rw[this]; rfl
 . unfold d0a
   have c':=of_decide_eq_true c'
   have:decide (rows.length<=64)=false:=decide_eq_false (by omega)
   rw[this,Bool.false_and,Bool.and_false]
 . have c:=of_decide_eq_false c
   have c':=of_decide_eq_false c'
   omega
 rintro⟨o2⟩ V1 l1 ⟨n1,n2⟩
 refine⟨⟨0,[],rfl,by omega,K02.nil,rfl,rfl,by simp⟩,?_⟩
 rintro⟨t18,o2',k,c,o⟩ V2 l2 ⟨t,l,et,ht,hL,ek,hC,hall⟩
 dsimp only at et hL ek hC ⊢
 subst et; subst ek
 have L2:=View.le_trans l1 l2
 refine⟨λhlt => ?_,λhge => ?_⟩
 . have hk:k<rows.length:=by simp at hlt; omega
   have ek:rows[k]?=some rows[k]:=List.getElem?_eq_getElem hk
   have hmem:=List.getElem_mem hk
   obtain⟨g,s,h1,h2⟩:=(D04.le boolC.le L2 h).row (t:=(k:Int)) (by omega) (row:=rows[k]) (by rw[Int.toNat_natCast]; exact ek)
   have hs:s.len=rows[k].length:=h2.len
   rw[hl]at g
   have tk:rows.take (k+1)=rows.take k++[rows[k]]:=by rw[List.take_add_one,ek]; rfl
   generalize rows[k]=row at *
   have no:f0e (i0c rows) row=false->d0a rows=false:=λe=>by
    unfold d0a
    rw[List.all_eq_false.2 ⟨row,hmem,by rw[e]; simp⟩,Bool.and_false,Bool.and_false]
   refine⟨g,s,h1,λc1=>bad V2 (no ?_),λc1=>⟨λc2=>bad V2 (no ?_),λc2 => ?_⟩⟩
   . unfold f0e
     have c1:=of_decide_eq_true c1
     have:decide (1<=row.length)=false:=decide_eq_false (by omega)
     rw[this]; rfl
   . unfold f0e
     have c2:=of_decide_eq_true c2
     have:decide (row.length<=64)=false:=decide_eq_false (by omega)
     rw[this,Bool.false_and,Bool.and_false]
   obtain⟨row0,e0,e1⟩:=g0k (rows:=rows) (by omega)
   obtain⟨g0,s0,h3,h4⟩:=(D04.le boolC.le L2 h).row (t:=(0:Int)) (by omega) (row:=row0) e0
   have hs0:s0.len=i0c rows:=by rw[<-e1]; exact h4.len
   rw[hl]at g0
   refine⟨g0,s0,h3,λc3=>bad V2 (no ?_),λc3 => ?_⟩
   . unfold f0e
     have:decide (row.length=i0c rows)=false:=decide_eq_false (λe=>by rw[hs,hs0,e]at c3; simp at c3)
     rw[this,Bool.and_false,Bool.and_false]
   have ok:f0e (i0c rows) row=true:=by
    have c1:=of_decide_eq_false c1
    have c2:=of_decide_eq_false c2
    have c3:row.length=i0c rows:=by rw[hs,hs0]at c3; simp at c3; omega
    unfold f0e
    rw[decide_eq_true (show 1<=row.length by omega),decide_eq_true (show row.length<=64 by omega),decide_eq_true c3]; rfl
   refine(L0n h2 (by have:=of_decide_eq_false c2; omega)).mono λv V3 l3 ⟨r1,hv,hr⟩=>⟨r1,hv,λb1 V4 l4 _ hb1 => ?_⟩
   have hnew:V4.has (some (Addr.mk b1 0 none)) [r1.v]:=M04 (cs:=[r1.v]) (j:=0) hb1 (λi v hv=>by rw[Nat.zero_add]; exact hv) rfl
   refine⟨l,_,hL,hnew,rfl,by intro v hv; simp at hv; subst hv; rfl,by unfold maxLen; omega,by omega,λc1 l3' hl3 => ?_⟩
   rw[i64w (by omega) (by omega)]
   have L24:=View.le_trans l3 l4
   refine⟨⟨k+1,_,by omega,by omega,hl3,rfl,?_,λrow' hr' => ?_⟩,by omega⟩
   . rw[tk]
     exact(hC.imp λ_ _ ⟨s,e,hs⟩=>⟨s,e,t00.le (boolC.le L24) L24 hs⟩).append (O01.one rfl ⟨_,rfl,t00.le (boolC.le l4) l4 hr⟩)
   . rw[tk]at hr'
     rcases List.mem_append.1 hr' with hr'|hr'
     . exact hall row' hr'
     . rw[show row'=row by simpa using hr']; exact ok
 . have e:k=rows.length:=by simp at hge; omega
   subst e
   rw[List.take_length]at hC hall
   intro b2 V5 l5 hb2
   have ok:d0a rows=true:=by
    unfold d0a
    simp only[Bool.and_eq_true,decide_eq_true_eq,List.all_eq_true]
    exact⟨n1,n2,hall⟩
   refine⟨⟨⟨lstA b2 c,rows.length,c⟩⟩,by unfold E0s; rw[ok]; rfl,?_⟩
   unfold d0q; rw[if_pos ok]
   exact o06 hL hb2 (hC.imp λ_ _ ⟨s,e,hs⟩=>⟨s,e,t00.le (boolC.le l5) l5 hs⟩) rfl
theorem f0i{V:View}{g:B05}{rows:List (List Bool)}(h:D04 1 boolC V g.rows rows) :
 a00 Tryz.prog y08 #[g.val] V λv _=>v = .tuple #[.int .i64 (rows.length:Int),.int .i64 (i0c rows:Int)]:=by
 have hl:g.rows.len=rows.length:=h.len
 refine E07 g V _ ⟨λc => ?_,λc => ?_⟩
 . have e:rows=[]:=List.length_eq_zero_iff.1 (by simp at c; omega)
   subst e; rfl
 . obtain⟨row0,e0,e1⟩:=g0k (rows:=rows) (by simp at c; omega)
   obtain⟨g0,s0,h3,h4⟩:=h.row (t:=(0:Int)) (by omega) (row:=row0) e0
   refine⟨g0,s0,h3,?_⟩
   rw[h4.len,e1,hl]
theorem y0k{m V:View}{g:B05}{rows:List (List Bool)}{i:Int}(h:D04 1 boolC V g.rows rows)(hb:∀row,row∈rows->row.length<=2^30) :
 Z07 Tryz.prog Q05 #[g.val,.int .i64 i] m V λv m' V'=>∃(r:Sl) (e:Int),v = .tuple #[r.v,.int .i64 e] /\
  (0<=i/\i<rows.length->e=0/\∃b:Nat,RowR 1 boolC m' V' r b (rows.getD i.toNat [])/\(rows.getD i.toNat []≠[]->m b=none)/\(∀k,k≠b\/rows.getD i.toNat []=[]->m' k=m k)) /\
  (¬(0<=i/\i<rows.length)->e=1/\r=⟨none,0,0⟩/\m'=m):=by
 have hl:g.rows.len=rows.length:=h.len
 refine n08 m g i V _ ⟨λc => ?_,λc=>⟨λc' => ?_,λc' => ?_⟩⟩
 . have c:=of_decide_eq_true c
   exact⟨_,_,rfl,λk=>absurd k.1 (by omega),λ_=>⟨rfl,rfl,rfl⟩⟩
 . have c':=of_decide_eq_true c'
   exact⟨_,_,rfl,λk=>absurd k.2 (by omega),λ_=>⟨rfl,rfl,rfl⟩⟩
 . have c:=of_decide_eq_false c
   have c':=of_decide_eq_false c'
   have hi:i.toNat<rows.length:=by omega
   have ek:rows[i.toNat]?=some (rows.getD i.toNat []):=by simp[List.getD,hi]
   obtain⟨g1,s,h1,h2⟩:=h.row (t:=i) (by omega) ek
   obtain⟨sl,_,hn,o,ho,hC⟩:=h2
   refine⟨g1,s,.inr h1,(s0c hC (.inr ho) sl (λe => ?_) (hb _ (List.mem_of_getElem? ek))).mono λv m1 V1 l1 _ ⟨r,b,hv,hr,k1,k2⟩=>⟨r,hv,r,0,rfl,λ_=>⟨rfl,b,hr,k1,k2⟩,λk=>absurd ⟨by omega,by omega⟩ k⟩⟩
   rcases Classical.em (rows.getD i.toNat []=[])with g|g
   . exact g
   . have:=hn g; rw[e]at this; simp at this
theorem U0r{V:View}{g:B05}{rows:List (List Bool)}{i:Int}(h:D04 1 boolC V g.rows rows)(hb:∀row,row∈rows->row.length<=2^30) :
 a00 Tryz.prog Q05 #[g.val,.int .i64 i] V λv V'=>∃(r:Sl) (e:Int),v = .tuple #[r.v,.int .i64 e] /\
  (0<=i/\i<rows.length->e=0/\t00 1 boolC V' r (rows.getD i.toNat []))/\(¬(0<=i/\i<rows.length)->e=1/\r=⟨none,0,0⟩):=by
 refine Z07.known (y0k h hb) λv m V' V2 l e ap ⟨r,e',hv,h1,h2⟩=>⟨r,e',hv,λk => ?_,λk=>⟨(h2 k).1,(h2 k).2.1⟩⟩
 obtain⟨e0,b,hr,_⟩:=h1 k
 subst e
 exact⟨e0,hr.known (boolC.le (f0f ap)) (λb cs g=>F0f g)⟩
theorem P0s:∀m∈List.range 7,lenB (2^m)=true:=by decide
theorem z0d{V:View}(n:Int):a00 Tryz.prog B0b #[.int .i64 n] V λv _=>v = .bool (lenB n.toNat):=by
 refine i0b n V _ (λ_ x _=>∃j:Nat,x.t3=((2^j:Nat):Int)/\j<=7/\∀i,i<j->n≠((2^i:Nat):Int)) (λ_ x _=>(128-x.t3).toNat) ⟨⟨0,rfl,by omega,λi hi=>by omega⟩,?_⟩
 rintro⟨t⟩ V1 l1 ⟨j,rfl,hj,hne⟩
 dsimp only
 have hp:2^j<=2^7:=Nat.pow_le_pow_right (by omega) hj
 have hp1:1<=2^j:=Nat.pow_pos (by omega)
 refine⟨λhle=>⟨λhe => ?_,λhe => ?_⟩,λhgt => ?_⟩
 . simp only[decide_eq_true_eq]at hle
   have he:n=((2^j:Nat):Int):=by simpa using he
   rw[he,Int.toNat_natCast]
   have hj6:j<=6:=by
    rcases Nat.lt_or_ge j 7 with h|h
    . omega
    . have:j=7:=by omega
      subst this
      exfalso; revert hle; decide
   rw[P0s j (by simp; omega)]
 . have he:n≠((2^j:Nat):Int):=by simpa using he
   have e2:((2^j:Nat):Int)*2=((2^(j+1):Nat):Int):=by rw[Nat.pow_succ]; omega
   simp only[decide_eq_true_eq]at hle
   rw[e2,i64w (by omega) (by rw[Nat.pow_succ]; omega)]
   have hj6:j<=6:=by
    rcases Nat.lt_or_ge j 7 with h|h
    . omega
    . have:j=7:=by omega
      subst this
      exfalso; revert hle; decide
   refine⟨⟨j+1,rfl,by omega,λi hi => ?_⟩,by rw[Nat.pow_succ]; omega⟩
   rcases Nat.lt_or_ge i j with h|h
   . exact hne i h
   . have:i=j:=by omega
     subst this; exact he
 . simp only[decide_eq_false_iff_not]at hgt
   have hj7:j=7:=by
    rcases Nat.lt_or_ge j 7 with h|h
    . have:2^j<=2^6:=Nat.pow_le_pow_right (by omega) (by omega)
      omega
    . omega
   subst hj7
   have:lenB n.toNat=false:=by
    cases hb:lenB n.toNat with
    | false=>rfl
    | true =>
      exfalso
      obtain⟨h1,h2⟩:=m0k hb
      have hmem:n.toNat∈[1,2,4,8,16,32,64]:=by
       unfold lenB at hb; exact List.contains_iff_mem.1 hb
      have hn:n=(n.toNat:Int):=by omega
      simp only[List.mem_cons,List.not_mem_nil,or_false]at hmem
      rcases hmem with h|h|h|h|h|h|h
      . exact hne 0 (by omega) (by rw[hn,h])
      . exact hne 1 (by omega) (by rw[hn,h])
      . exact hne 2 (by omega) (by rw[hn,h])
      . exact hne 3 (by omega) (by rw[hn,h])
      . exact hne 4 (by omega) (by rw[hn,h])
      . exact hne 5 (by omega) (by rw[hn,h])
      . exact hne 6 (by omega) (by rw[hn,h])
   rw[this]
def Q0u(rows:List (List Cq))(ws vs:List Cq):Bool:=lenB ws.length&&(lenB vs.length&&(decide (i0c rows=ws.length)&&decide (rows.length=vs.length)))
theorem q0m{V:View}{p:Option Addr}{v:Value}(h:V.has p [v]):V.load p=some v:=by
 have:=h 0 v rfl
 cases p with
 | none=>exact this
 | some a=>simpa [Addr.add]using this
theorem E0o{a b:NumV}(h:a.val.cells.toList=b.val.cells.toList):a=b:=by
 obtain⟨⟨n1,⟨a1,l1,c1⟩⟩,⟨n2,⟨a2,l2,c2⟩⟩,⟨a3,l3,c3⟩⟩:=a
 obtain⟨⟨m1,⟨b1,k1,d1⟩⟩,⟨m2,⟨b2,k2,d2⟩⟩,⟨b3,k3,d3⟩⟩:=b
 rw[X0g,X0g]at h
 simp[Sl.v]at h
 obtain⟨rfl,⟨rfl,rfl,rfl⟩,rfl,⟨rfl,rfl,rfl⟩,rfl,rfl,rfl⟩:=h
 rfl
theorem W0r{α:Type}{n m:Nat}(A:Nat->Nat->α)(n1:1<=n)(n2:n<=64)(m1:1<=m)(m2:m<=64):d0q (matL n m A)=matL n m A:=by
 have hc:i0c (matL n m A)=m:=by
  obtain⟨row,e,hl⟩:=g0k (rows:=matL n m A) (by rw[H01]; omega)
  rw[X07 (by omega)]at e
  obtain rfl:=Option.some.inj e
  rw[<-hl,Z00]
 unfold d0q
 rw[if_pos]
 unfold d0a
 rw[H01,decide_eq_true n1,decide_eq_true n2,Bool.true_and,Bool.true_and,List.all_eq_true]
 intro row hr
 unfold matL at hr
 obtain⟨i,_,rfl⟩:=List.mem_map.1 hr
 unfold f0e
 rw[hc,Z00,decide_eq_true m1,decide_eq_true m2,decide_eq_true rfl]; rfl
def j0t(rows wts:List (List Cq))(K:List (List Bool)):Prop:=(rows.length=wts.length/\i0c rows=i0c wts)/\rows.length=K.length/\i0c rows=i0c K
instance (rows wts:List (List Cq)) (K:List (List Bool)):Decidable (j0t rows wts K):=by unfold j0t; infer_instance
theorem M0n(a:Cq):Cq.zero*a=Cq.zero:=Cq.ext' (by simp only[m03,Cq.zero]; grind) (by simp only[n03,Cq.zero]; grind)
theorem o0h{r:RatV}(h:ratI r):(ratQ r).sz<=64:=by
 obtain⟨⟨a,b⟩,⟨c,d⟩,e,f⟩:=h
 have key:Rep (ratQ r) (if r.den<0 then -r.re else r.re) (if r.den<0 then -r.im else r.im) (if r.den=0 then 1 else r.den.natAbs):=by
  unfold ratQ
  split
  . rename_i h0
    have:¬r.den<0:=by omega
    rw[if_neg this,if_neg this]
    refine⟨by omega,?_,?_⟩<;>simp only[]<;>rw[Rat.div_def]<;>simp<;>grind
  . by_cases hn:r.den<0
    . rw[if_pos hn,if_pos hn]
      have hd:(r.den:Rat)≠0:=by
       intro e0
       have:=Rat.intCast_inj.1 (e0.trans Rat.intCast_zero.symm)
       omega
      have e:((r.den.natAbs:Nat):Rat) = -(r.den:Rat):=by
       have e1:((r.den.natAbs:Nat):Rat)=(((r.den.natAbs:Nat):Int):Rat):=rfl
       have e2:((r.den.natAbs:Nat):Int) = -r.den:=by omega
       rw[e1,e2,Rat.intCast_neg]
      refine⟨by omega,?_,?_⟩<;>simp only[e,Rat.intCast_neg]<;>grind
    . rw[if_neg hn,if_neg hn]
      have e:((r.den.natAbs:Nat):Rat)=(r.den:Rat):=by
       have e2:((r.den.natAbs:Nat):Int)=r.den:=by omega
       conv=>rhs; rw[<-e2]
       rfl
      exact⟨by omega,by simp only[e],by simp only[e]⟩
 refine key.sz ?_ ?_ ?_
 . exact e06 (by split<;>omega)
 . exact e06 (by split<;>omega)
 . exact e06 (by split<;>omega)
theorem Y0t{k:Int}(h0:0<=k)(h:k<=255):(⟨(k:Rat),0⟩:Cq).sz<=64:=by
 refine(Rep.ofInt k).sz (k:=64) ?_ (by decide) (by decide)
 exact e06 (by omega)
theorem t0c{z w:Cq}{s u:Nat}(hz:z.sz<=s)(hw:w.sz<=u):(z*w).sz<=s+u+1:=by have:=a04 z w; omega
def real(q:Rat):Cq:=⟨q,0⟩
def k0t(rows:List (List Cq))(ws vs:List Cq)(K:List (List Bool)):Prop:=Q0u rows ws vs=true/\rows.length=K.length/\i0c rows=i0c K
instance (rows:List (List Cq)) (ws vs:List Cq) (K:List (List Bool)):Decidable (k0t rows ws vs K):=by unfold k0t; infer_instance
theorem Z0t{q:Rat}:real q≠Cq.zero↔q≠0:=⟨λh e=>h (by rw[e]; rfl),λh e=>h (congrArg Cq.re e)⟩
theorem i0a{V:View}(n:Int):a00 Tryz.prog P0d #[.int .i64 n] V λv _=>v = .bool (lenB n.toNat):=by
 refine c0d n V _ ⟨λh1=>⟨λh2 => ?_,λh2 => ?_⟩,λh1 => ?_⟩
 . simp only[ge_iff_le,decide_eq_true_eq]at h1 h2
   have:=L0t n.toNat (by simp; omega) (by omega)
   rw[Int.toNat_of_nonneg (by omega)]at this
   rw[this]
 . simp only[decide_eq_false_iff_not]at h2
   congr 1; symm
   rw[Bool.eq_false_iff]; intro e
   have:=m0k e; omega
 . simp only[ge_iff_le,decide_eq_false_iff_not]at h1
   congr 1; symm
   rw[Bool.eq_false_iff]; intro e
   have:=m0k e; omega
def ordI(n k:Int):Int:=if 2*k<n then k else k-n
theorem lenI{n:Int}(h:lenB n.toNat=true):1<=n/\n<=64:=by have:=m0k h; omega
theorem t0e{V:View}{n k:Int}(h:1<=n/\n<=64)(k0:0<=k)(k1:k<n):a00 Tryz.prog q0f #[.int .i64 n,.int .i64 k] V λv _=>v = .int .i64 (ordI n k):=by
 refine W0d n k V _ ⟨λc => ?_,λc => ?_⟩
 . have c:=of_decide_eq_true c
   rw[i64w (by omega) (by omega)]at c
   unfold ordI; rw[if_pos c]
 . have c:=of_decide_eq_false c
   rw[i64w (by omega) (by omega)]at c
   rw[i64w (by omega) (by omega)]
   unfold ordI; rw[if_neg c]
def ordV(n k:Int):Value:=if lenB n.toNat=true then(if 0<=k/\k<n then .tuple #[.int .i64 (ordI n k),.int .i64 0]else .tuple #[.int .i64 0,.int .i64 1])else .tuple #[.int .i64 0,.int .i64 4]
theorem z0k{V:View}(n k:Int):a00 Tryz.prog o0f #[.int .i64 n,.int .i64 k] V λv _=>v=ordV n k:=by
 refine X0d n k V _ ((i0a n).mono λv V1 _ hv=>⟨_,hv,λc => ?_,λc=>⟨λc1 => ?_,λc1=>⟨λc2 => ?_,λc2 => ?_⟩⟩⟩)
 . have c:¬lenB n.toNat=true:=by simpa using c
   unfold ordV; rw[if_neg c]
 all_goals have c:lenB n.toNat=true:=by simpa using c
 . have:=of_decide_eq_true c1
   unfold ordV; rw[if_pos c,if_neg (by omega)]
 . have:=of_decide_eq_true c2
   unfold ordV; rw[if_pos c,if_neg (by omega)]
 . have d1:=of_decide_eq_false c1
   have d2:=of_decide_eq_false c2
   refine(t0e (lenI c) (by omega) (by omega)).mono λv V2 _ hv=>⟨_,hv,?_⟩
   unfold ordV; rw[if_pos c,if_pos (by omega)]
theorem u0e{V:View}(n k:Int):a00 Tryz.prog O0b #[.int .i64 n,.int .i64 k] V λv _=>v=ordV n k:=by
 refine H0b n k V _ ((z0d n).mono λv V1 _ hv=>⟨_,hv,λc => ?_,λc=>⟨λc1 => ?_,λc1=>⟨λc2 => ?_,λc2=>⟨λc3 => ?_,λc3 => ?_⟩⟩⟩⟩)
 . have c:¬lenB n.toNat=true:=by simpa using c
   unfold ordV; rw[if_neg c]
 all_goals have c:lenB n.toNat=true:=by simpa using c
 . have:=of_decide_eq_true c1
   unfold ordV; rw[if_pos c,if_neg (by omega)]
 . have:=of_decide_eq_true c2
   unfold ordV; rw[if_pos c,if_neg (by omega)]
 all_goals
  have d1:=of_decide_eq_false c1
  have d2:=of_decide_eq_false c2
  have l:=lenI c
  unfold ordV; rw[if_pos c,if_pos (by omega)]
  unfold ordI
 . have c3:=of_decide_eq_true c3
   rw[i64w (by omega) (by omega)]at c3
   rw[i64w (by omega) (by omega),if_neg (by omega)]
 . have c3:=of_decide_eq_false c3
   rw[i64w (by omega) (by omega)]at c3
   rw[if_pos (by omega)]
def posQ(z:Cq):Prop:=z.im=0/\0<z.re
instance (z:Cq):Decidable (posQ z):=by unfold posQ; infer_instance
theorem posQ.ne{z:Cq}(h:posQ z):z≠Cq.zero:=λe=>by have:=h.2; rw[e]at this; exact absurd this (by decide)
def t08(n k:Int)(d:Cq):Cq:=(intQ (ordI n k)).div (intQ n*d)
theorem p0h{n k:Int}(h:1<=n/\n<=64)(k0:0<=k)(k1:k<n) : -9223372036854775808<=ordI n k/\ordI n k<=9223372036854775807:=by unfold ordI; split<;>omega
theorem a0u{n:Int}{d:Cq}(h:1<=n/\n<=64)(hd:d.sz<=64):(intQ n*d).sz<=129:=t0c (W06 (by omega)) hd
theorem q0b{n k:Int}{d:Cq}(h:1<=n/\n<=64)(k0:0<=k)(k1:k<n)(hd:d.sz<=64):(t08 n k d).sz<=524 :=
 X0i (S:=129) (Nat.le_trans (W06 (p0h h k0 k1)) (by decide)) (a0u h hd)
theorem b0u{n:Int}(h:1<=n):intQ n≠Cq.zero:=λe=>by
 have:(n:Rat)=0:=congrArg Cq.re e
 have:=Rat.intCast_inj.1 (this.trans Rat.intCast_zero.symm)
 omega
theorem X0r{z w:Cq}(hz:z≠Cq.zero)(hw:w≠Cq.zero):z*w≠Cq.zero:=λe=>hz (X06 hw (by rw[e,M0n]))
theorem a0j{V:View}{x:NumV}{n k:Int}{d:Cq}(h:1<=n/\n<=64)(k0:0<=k)(k1:k<n)(hx:M00 V x d)(hd:d.sz<=64)(pd:posQ d){K:Value->View->Prop}
 (hk:∀(V5:View) (r:NumV),View.le V V5->M00 V5 r (t08 n k d)->K (.tuple #[r.val,.int .i64 0]) V5) :
 a00 Tryz.prog q0f #[.int .i64 n,.int .i64 k] V λv V1=>∃r1:Int,v = .int .i64 r1/\a00 Tryz.prog P0b #[.int .i64 r1] V1 λv V2=>∃r2:NumV,v=r2.val/\a00 Tryz.prog P0b #[.int .i64 n] V2 λv V3=>∃r3:NumV,v=r3.val /\
  a00 Tryz.prog N0d #[r3.val,x.val] V3 λv V4=>∃r4:NumV,v=r4.val/\a00 Tryz.prog E0g #[r2.val,r4.val] V4 λv V5=>∃(r5:NumV) (r6:Int),v = .tuple #[r5.val,.int .i64 r6]/\K (.tuple #[r5.val,.int .i64 r6]) V5:=by
 have ro:=p0h h k0 k1
 have z1:=W06 ro
 have z2:=a0u (n:=n) h hd
 refine(t0e h k0 k1).mono λv V1 l1 hv=>⟨_,hv,(M0a ro.1 ro.2).mono λv V2 l2 ⟨r2,hv,h2⟩=>⟨r2,hv,(M0a (n:=n) (by omega) (by omega)).mono λv V3 l3 ⟨r3,hv,h3⟩=>⟨r3,hv,?_⟩⟩⟩
 have h3:M00 V3 r3 (intQ n):=h3
 have h2:M00 V2 r2 (intQ (ordI n k)):=h2
 refine(b02 h3 (hx.le (View.le_trans l1 (View.le_trans l2 l3))) (Nat.le_trans (W06 (by omega)) (by decide)) (by omega)).mono λv V4 l4 ⟨r4,hv,h4⟩=>⟨r4,hv,?_⟩
 refine(K09 (h2.le (View.le_trans l3 l4)) h4 (by omega) (by omega)).mono λv V5 l5 ⟨r5,e,hv,_,h5⟩=>⟨r5,e,hv,?_⟩
 obtain⟨e0,h5'⟩:=h5 (X0r (b0u h.1) pd.ne)
 clear h5
 subst e0
 exact hk V5 r5 (View.le_trans l1 (View.le_trans l2 (View.le_trans l3 (View.le_trans l4 l5)))) h5'
structure j0a (V:View) (p:W05) (dx dy lam:Cq):Prop where
 x:M00 V p.dx dx
 y:M00 V p.dy dy
 l:M00 V p.lam lam
theorem j0a.le{V V':View}{p:W05}{dx dy lam:Cq}(h:j0a V p dx dy lam)(hle:View.le V V'):j0a V' p dx dy lam:=⟨h.x.le hle,h.y.le hle,h.l.le hle⟩
def K04(rows cols:Int)(dx dy lam:Cq):Int:=if lenB rows.toNat=true/\lenB cols.toNat=true then(if posQ dx/\posQ dy/\posQ lam then 0 else 1)else 4
theorem b0j{V:View}{p:W05}{dx dy lam:Cq}{i j:Int}(h:j0a V p dx dy lam)(hr:1<=p.rows/\p.rows<=64)(hc:1<=p.cols/\p.cols<=64)(i0:0<=i/\i<p.rows)(j0:0<=j/\j<p.cols)(sx:dx.sz<=64)(sy:dy.sz<=64)(px:posQ dx)(py:posQ dy) :
 a00 Tryz.prog S0d #[p.val,.int .i64 i,.int .i64 j] V λv V'=>∃a b:NumV,v = .tuple #[a.val,b.val]/\M00 V' a (t08 p.cols j dx)/\M00 V' b (t08 p.rows i dy):=by
 refine s0d p i j V _ ?_
 refine(a0j (K:=λv V5=>∃(r5:NumV) (r6:Int),v = .tuple #[r5.val,.int .i64 r6]/\View.le V V5/\M00 V5 r5 (t08 p.cols j dx)) hc j0.1 j0.2 h.x sx px λV5 r hle hr=>⟨r,0,rfl,hle,hr⟩).mono λv V1 l1 ⟨r1,hv,g⟩=>⟨r1,hv,g.mono λv V2 l2 ⟨r2,hv,g⟩=>⟨r2,hv,g.mono λv V3 l3 ⟨r3,hv,g⟩=>⟨r3,hv,g.mono λv V4 l4 ⟨r4,hv,g⟩=>⟨r4,hv,g.mono λv V5 l5 ⟨r5,r6,hv,g⟩=>⟨r5,r6,hv,?_⟩⟩⟩⟩⟩
 obtain⟨r5',r6',e,hle,h5⟩:=g
 obtain rfl:r5=r5':=by
  simp at e
  exact E0o (by rw[e.1])
 refine(a0j (K:=λv V10=>∃(r5:NumV) (r6:Int),v = .tuple #[r5.val,.int .i64 r6]/\View.le V5 V10/\M00 V10 r5 (t08 p.rows i dy)) hr i0.1 i0.2 (h.y.le hle) sy py λV5 r hle hr=>⟨r,0,rfl,hle,hr⟩).mono λv V1 l1 ⟨r1,hv,g⟩=>⟨r1,hv,g.mono λv V2 l2 ⟨r2,hv,g⟩=>⟨r2,hv,g.mono λv V3 l3 ⟨r3,hv,g⟩=>⟨r3,hv,g.mono λv V4 l4 ⟨r4,hv,g⟩=>⟨r4,hv,g.mono λv V10 l5 ⟨r11,r12,hv,g⟩=>⟨r11,r12,hv,?_⟩⟩⟩⟩⟩
 obtain⟨r5',r6',e,hle',h11⟩:=g
 obtain rfl:r11=r5':=by
  simp at e
  exact E0o (by rw[e.1])
 exact⟨r5,r11,rfl,h5.le hle',h11⟩
theorem c0u(a b c:NumV):([.bool a.re.neg,a.re.mag.v,.bool a.im.neg,a.im.mag.v,a.under.v,.bool b.re.neg,b.re.mag.v,.bool b.im.neg,b.im.mag.v,b.under.v,.bool c.re.neg,c.re.mag.v,.bool c.im.neg,c.im.mag.v,c.under.v]:List Value)=a.val.cells.toList++(b.val.cells.toList++c.val.cells.toList):=rfl
theorem c0j{V:View}{p:W05}{dx dy lam:Cq}(h:j0a V p dx dy lam)(sx:dx.sz<=64)(sy:dy.sz<=64)(sl:lam.sz<=64) :
 a00 Tryz.prog Q0d #[p.val] V λv _=>v = .int .i64 (K04 p.rows p.cols dx dy lam):=by
 refine q0d p V _ (λ_ _ _=>lenB p.rows.toNat=true/\lenB p.cols.toNat=true)
  (λ_ x _=>∃t:Nat,x.t22=t/\t<=3/\(1<=t->posQ dx)/\(2<=t->posQ dy)/\(3<=t->posQ lam)) (λ_ x _=>3-x.t22.toNat) ?_
 refine⟨(i0a p.rows).mono λv V1 _ hv=>⟨_,hv,λc => ?_,λc=>(i0a p.cols).mono λv V2 _ hv=>⟨_,hv,λc2 => ?_,λc2 => ?_⟩⟩,?_⟩
 . have c:¬lenB p.rows.toNat=true:=by simpa using c
   unfold K04; rw[if_neg (λx=>c x.1)]
 . have c2:¬lenB p.cols.toNat=true:=by simpa using c2
   unfold K04; rw[if_neg (λx=>c2 x.2)]
 . exact⟨by simpa using c,by simpa using c2⟩
 rintro x1 V1 l1 lens
 refine⟨⟨0,rfl,by omega,λh=>absurd h (by omega),λh=>absurd h (by omega),λh=>absurd h (by omega)⟩,?_⟩
 rintro⟨t22⟩ V4 l4 ⟨t,et,ht,q1,q2,q3⟩
 dsimp only at et ⊢
 subst et
 refine⟨λhlt => ?_,λhge => ?_⟩
 . have hk:t<3:=by have:=of_decide_eq_true hlt; omega
   have step:∀(x:NumV) (z:Cq),M00 V4 x z->z.sz<=64->(posQ z->(1<=t+1->posQ dx)/\(2<=t+1->posQ dy)/\(3<=t+1->posQ lam))->(¬posQ z->¬(posQ dx/\posQ dy/\posQ lam)) ->
    a00 Tryz.prog E0i #[x.val] V4 λv V5=>∃r3:Bool,v = .bool r3/\((!r3)=true->Value.int .i64 1 = .int .i64 (K04 p.rows p.cols dx dy lam))/\((!r3)=false->a00 Tryz.prog B0g #[.int .i64 0] V5 λv V6=>∃r4:NumV,v=r4.val /\
     a00 Tryz.prog X0k #[x.val,r4.val] V6 λv V7=>∃r5:Int,v = .int .i64 r5/\(decide ((r5:Int)<=0)=true->Value.int .i64 1 = .int .i64 (K04 p.rows p.cols dx dy lam))/\(decide ((r5:Int)<=0)=false ->
      (∃t':Nat,IntKind.i64.wrap ((t:Int)+1)=t'/\t'<=3/\(1<=t'->posQ dx)/\(2<=t'->posQ dy)/\(3<=t'->posQ lam))/\3-Int.toNat (IntKind.i64.wrap ((t:Int)+1))<3-Int.toNat (t:Int))):=λx z hx hz yes no=>by
    refine(f05 hx).mono λv V5 l5 hv=>⟨_,hv,λc => ?_,λc => ?_⟩
    . have c:¬z.im=0:=by simpa using c
      unfold K04; rw[if_pos lens,if_neg (no λx=>c x.1)]
    have c:z.im=0:=by simpa using c
    refine(a07 (n:=0) (by decide) (by decide)).mono λv V6 l6 ⟨r4,hv,h4⟩=>⟨r4,hv,?_⟩
    have h4:M00 V6 r4 Cq.zero:=h4
    refine(s08 (hx.le (View.le_trans l5 l6)) h4 (by omega) (Nat.le_trans P0a (by omega))).mono λv V7 l7 hv=>⟨_,hv,λd => ?_,λd => ?_⟩
    . have d:=of_decide_eq_true d
      rw[x0k c,n0h]at d
      unfold K04; rw[if_pos lens,if_neg (no λx=>d x.2)]
    . have d:=of_decide_eq_false d
      rw[x0k c,n0h,Classical.not_not]at d
      rw[i64w (by omega) (by omega)]
      obtain⟨y1,y2,y3⟩:=yes ⟨c,d⟩
      exact⟨⟨t+1,by omega,by omega,y1,y2,y3⟩,by omega⟩
   rw[c0u]
   have:t=0\/t=1\/t=2:=by omega
   rcases this with rfl|rfl|rfl
   . exact⟨⟨by decide,by decide⟩,p.dx,rfl,step _ _ (h.x.le (View.le_trans l1 l4)) sx (λg=>⟨λ_=>g,λx=>absurd x (by omega),λx=>absurd x (by omega)⟩) (λg x=>g x.1)⟩
   . exact⟨⟨by decide,by decide⟩,p.dy,rfl,step _ _ (h.y.le (View.le_trans l1 l4)) sy (λg=>⟨λ_=>q1 (by omega),λ_=>g,λx=>absurd x (by omega)⟩) (λg x=>g x.2.1)⟩
   . exact⟨⟨by decide,by decide⟩,p.lam,rfl,step _ _ (h.l.le (View.le_trans l1 l4)) sl (λg=>⟨λ_=>q1 (by omega),λ_=>q2 (by omega),λ_=>g⟩) (λg x=>g x.2.2)⟩
 . have e:t=3:=by have:=of_decide_eq_false hge; omega
   subst e
   unfold K04; rw[if_pos lens,if_pos ⟨q1 (by omega),q2 (by omega),q3 (by omega)⟩]
theorem F0o{a b:Rat}(h:b≠0):(real a).div (real b)=real (a / b):=by
 have hb:real b≠Cq.zero:=Z0t.2 h
 refine((c0s hb).2 ?_).symm
 refine Cq.ext' ?_ ?_
 . simp only[m03,real]
   rw[show a / b*b-0*0=a / b*b by grind,Rat.div_mul_cancel h]
 . simp only[n03,real]; grind
theorem M09(a b:Rat):real a*real b=real (a*b):=Cq.ext' (by simp only[m03,real]; grind) (by simp only[n03,real]; grind)
theorem j0g(a b:Rat):real a-real b=real (a-b):=Cq.ext' rfl (by simp only[E04,real]; grind)
theorem posQ.real{z:Cq}(h:posQ z):z=Proofs.YtblaagclfalaaaaGreat.real z.re:=Cq.ext' rfl h.1
theorem s0m(n:Int):intQ n=real (n:Rat):=rfl
def Q0s(n k:Int)(d:Rat):Rat:=(ordI n k:Rat) / ((n:Rat)*d)
theorem m0v{n:Int}{d:Rat}(h:1<=n)(hd:0<d):(n:Rat)*d≠0:=λe=>by
 rcases Rat.mul_eq_zero.1 e with h1|h1
 . have:=Rat.intCast_inj.1 (h1.trans Rat.intCast_zero.symm); omega
 . rw[h1]at hd; exact absurd hd (by decide)
theorem d0j{n k:Int}{d:Cq}(h:1<=n)(pd:posQ d):t08 n k d=real (Q0s n k d.re):=by
 unfold t08 Q0s
 rw[s0m,s0m,pd.real,M09,F0o (m0v h pd.2)]; rfl
def dirU(n k:Int)(d lam:Cq):Cq:=lam*t08 n k d
def dirW(rows cols i j:Int)(dx dy lam:Cq):Cq:=Cq.one-dirU cols j dx lam*dirU cols j dx lam-dirU rows i dy lam*dirU rows i dy lam
theorem S0s(rows cols i j:Int)(dx dy lam:Cq):Cq.one-(dirU cols j dx lam*dirU cols j dx lam+dirU rows i dy lam*dirU rows i dy lam)=dirW rows cols i j dx dy lam :=
 Cq.ext' (by unfold dirW; simp only[g05,I05]; grind) (by unfold dirW; simp only[E04,J05]; grind)
def trvB(rows cols i j:Int)(dx dy lam:Cq):Bool:=decide (0<(dirW rows cols i j dx dy lam).re)
def N0n(rows cols i j:Int)(dx dy lam:Cq):Cq:=Cq.one.div (lam*lam)-t08 cols j dx*t08 cols j dx-t08 rows i dy*t08 rows i dy
theorem l0t{x:Rat}(h:0<x):0<x*x:=Rat.mul_pos h h
theorem Y0r{rows cols i j:Int}{dx dy lam:Cq}(hr:1<=rows)(hc:1<=cols)(px:posQ dx)(py:posQ dy)(pl:posQ lam) :
 (N0n rows cols i j dx dy lam).im=0/\(0<(N0n rows cols i j dx dy lam).re↔0<(dirW rows cols i j dx dy lam).re):=by
 have e1:=d0j (k:=j) hc px
 have e2:=d0j (k:=i) hr py
 generalize Q0s cols j dx.re=a at e1
 generalize Q0s rows i dy.re=b at e2
 have el:=pl.real
 have hl:=pl.2
 generalize lam.re=c at el hl
 have hcc:c*c≠0:=λe=>by have:=l0t hl; rw[e]at this; exact absurd this (by decide)
 have eR:N0n rows cols i j dx dy lam=real (1 / (c*c)-a*a-b*b):=by
  unfold N0n
  rw[e1,e2,el,M09,M09,M09,show Cq.one=real 1 from rfl,F0o hcc,j0g,j0g]
 have eW:dirW rows cols i j dx dy lam=real (1-c*a*(c*a)-c*b*(c*b)):=by
  unfold dirW dirU
  rw[e1,e2,el,M09,M09,M09,M09,show Cq.one=real 1 from rfl,j0g,j0g]
 rw[eR,eW]
 refine⟨rfl,?_⟩
 show 0<1 / (c*c)-a*a-b*b↔0<1-c*a*(c*a)-c*b*(c*b)
 have hp:=l0t hl
 have h1:1 / (c*c)*(c*c)=1:=Rat.div_mul_cancel hcc
 have e:1-c*a*(c*a)-c*b*(c*b)=(1 / (c*c)-a*a-b*b)*(c*c):=by grind
 rw[e]
 generalize 1 / (c*c)-a*a-b*b=y
 generalize c*c=z at hp
 constructor
 . intro h; exact Rat.mul_pos h hp
 . intro h
   refine Classical.byContradiction λn => ?_
   have:=Rat.mul_nonneg (a := -y) (b:=z) (by grind) (by grind)
   grind
theorem q0h:Cq.one.sz<=64:=Y0t (k:=1) (by decide) (by decide)
theorem Z0r{V:View}{p:W05}{dx dy lam:Cq}{i j:Int}(h:j0a V p dx dy lam)(hr:1<=p.rows/\p.rows<=64)(hc:1<=p.cols/\p.cols<=64)(i0:0<=i/\i<p.rows)(j0:0<=j/\j<p.cols)(sx:dx.sz<=64)(sy:dy.sz<=64)(sl:lam.sz<=64)(px:posQ dx)(py:posQ dy)(pl:posQ lam) :
 a00 Tryz.prog L0e #[p.val,.int .i64 i,.int .i64 j] V λv V'=>∃r:NumV,v=r.val/\M00 V' r (N0n p.rows p.cols i j dx dy lam)/\(N0n p.rows p.cols i j dx dy lam).sz<=2^20:=by
 have za:=q0b (k:=j) hc j0.1 j0.2 sx
 have zb:=q0b (k:=i) hr i0.1 i0.2 sy
 have ll:lam*lam≠Cq.zero:=X0r pl.ne pl.ne
 have zl:=t0c sl sl
 have zd:=X0i (z:=Cq.one) (w:=lam*lam) (S:=129) (Nat.le_trans q0h (by decide)) zl
 have zaa:=t0c za za
 have zbb:=t0c zb zb
 have zs1:=K05 (Cq.one.div (lam*lam)) (t08 p.cols j dx*t08 p.cols j dx)
 have zs2:=K05 (Cq.one.div (lam*lam)-t08 p.cols j dx*t08 p.cols j dx) (t08 p.rows i dy*t08 p.rows i dy)
 refine Y0d p i j V _ ((b0j h hr hc i0 j0 sx sy px py).mono λv V1 l1 ⟨a,b,hv,ha,hb⟩=>⟨a,b,hv,?_⟩)
 refine(a07 (n:=1) (by decide) (by decide)).mono λv V2 l2 ⟨r3,hv,h3⟩=>⟨r3,hv,?_⟩
 have h3:M00 V2 r3 Cq.one:=h3
 refine(b02 (h.l.le (View.le_trans l1 l2)) (h.l.le (View.le_trans l1 l2)) (by omega) (by omega)).mono λv V3 l3 ⟨r4,hv,h4⟩=>⟨r4,hv,?_⟩
 refine(K09 (h3.le l3) h4 (Nat.le_trans q0h (by decide)) (by omega)).mono λv V4 l4 ⟨r5,e,hv,_,h5⟩=>⟨r5,e,hv,?_⟩
 obtain⟨_,h5'⟩:=h5 ll
 have L4:=View.le_trans l2 (View.le_trans l3 l4)
 refine(b02 (ha.le L4) (ha.le L4) (by omega) (by omega)).mono λv V5 l5 ⟨r7,hv,h7⟩=>⟨r7,hv,?_⟩
 refine(e05 (h5'.le l5) h7 (by omega) (by omega)).mono λv V6 l6 ⟨r8,hv,h8⟩=>⟨r8,hv,?_⟩
 have L6:=View.le_trans L4 (View.le_trans l5 l6)
 refine(b02 (hb.le L6) (hb.le L6) (by omega) (by omega)).mono λv V7 l7 ⟨r9,hv,h9⟩=>⟨r9,hv,?_⟩
 refine(e05 (h8.le l7) h9 (by omega) (by omega)).mono λv V8 l8 ⟨r10,hv,h10⟩=>⟨r10,hv,r10,rfl,h10,?_⟩
 show(Cq.one.div (lam*lam)-t08 p.cols j dx*t08 p.cols j dx-t08 p.rows i dy*t08 p.rows i dy).sz<=2^20
 omega
theorem t0m{V:View}{p:W05}{dx dy lam:Cq}{i j:Int}(h:j0a V p dx dy lam)(hr:1<=p.rows/\p.rows<=64)(hc:1<=p.cols/\p.cols<=64)(i0:0<=i/\i<p.rows)(j0:0<=j/\j<p.cols)(sx:dx.sz<=64)(sy:dy.sz<=64)(sl:lam.sz<=64)(px:posQ dx)(py:posQ dy)(pl:posQ lam) :
 a00 Tryz.prog D08 #[p.val,.int .i64 i,.int .i64 j] V λv _=>v = .bool (trvB p.rows p.cols i j dx dy lam):=by
 refine a0c p i j V _ ((Z0r h hr hc i0 j0 sx sy sl px py pl).mono λv V1 l1 ⟨r1,hv,h1,z1⟩=>⟨r1,hv,?_⟩)
 obtain⟨e1,e2⟩:=Y0r (rows:=p.rows) (cols:=p.cols) (i:=i) (j:=j) hr.1 hc.1 px py pl
 refine(a07 (n:=0) (by decide) (by decide)).mono λv V2 l2 ⟨r2,hv,h2⟩=>⟨r2,hv,?_⟩
 have h2:M00 V2 r2 Cq.zero:=h2
 refine(s08 (h1.le l2) h2 (by omega) (Nat.le_trans P0a (by omega))).mono λv V3 l3 hv=>⟨_,hv,?_⟩
 rw[x0k e1]
 unfold trvB
 congr 1
 rw[decide_eq_decide,<-e2]
 have:=n0h (x:=(N0n p.rows p.cols i j dx dy lam).re)
 constructor
 . intro g; exact Classical.byContradiction λn=>by have:=this.2 n; omega
 . intro g; exact Classical.byContradiction λn=>(this.1 (by omega)) g
def dirE(rows cols i j:Int)(dx dy lam:Cq):Int:=if K04 rows cols dx dy lam=4 then 4 else if(0<=i/\i<rows)/\(0<=j/\j<cols)then K04 rows cols dx dy lam else 1
theorem u0c{n k:Int}{d lam:Cq}(h:1<=n/\n<=64)(k0:0<=k/\k<n)(hd:d.sz<=64)(hl:lam.sz<=64):(dirU n k d lam).sz<=589:=t0c hl (q0b h k0.1 k0.2 hd)
theorem d0u{rows cols i j:Int}{dx dy lam:Cq}(hr:1<=rows/\rows<=64)(hc:1<=cols/\cols<=64)(i0:0<=i/\i<rows)(j0:0<=j/\j<cols)(sx:dx.sz<=64)(sy:dy.sz<=64)(sl:lam.sz<=64):(dirW rows cols i j dx dy lam).sz<=2^20:=by
 have z1:=u0c hc j0 sx sl
 have z2:=u0c hr i0 sy sl
 have z3:=t0c z1 z1
 have z4:=t0c z2 z2
 have z5:=K05 Cq.one (dirU cols j dx lam*dirU cols j dx lam)
 have z6:=K05 (Cq.one-dirU cols j dx lam*dirU cols j dx lam) (dirU rows i dy lam*dirU rows i dy lam)
 have:=q0h
 show(Cq.one-dirU cols j dx lam*dirU cols j dx lam-dirU rows i dy lam*dirU rows i dy lam).sz<=2^20
 omega
theorem n09{rows cols:Int}{dx dy lam:Cq}(h:K04 rows cols dx dy lam=0):(1<=rows/\rows<=64)/\(1<=cols/\cols<=64)/\posQ dx/\posQ dy/\posQ lam:=by
 unfold K04 at h
 split at h
 . rename_i l
   split at h
   . rename_i q; exact⟨lenI l.1,lenI l.2,q⟩
   . simp at h
 . simp at h
def dirA(rows cols i j:Int)(dx dy lam:Cq)(k:Nat):Cq:=if dirE rows cols i j dx dy lam=0 then(if k=0 then dirU cols j dx lam else if k=1 then dirU rows i dy lam else dirW rows cols i j dx dy lam)else Cq.zero
theorem g0i{V:View}{a b c:NumV}{rows cols i j:Int}{dx dy lam:Cq}(ha:M00 V a dx)(hb:M00 V b dy)(hl:M00 V c lam)(sx:dx.sz<=64)(sy:dy.sz<=64)(sl:lam.sz<=64) :
 a00 Tryz.prog H0f #[.int .i64 rows,.int .i64 cols,.int .i64 i,.int .i64 j,a.val,b.val,c.val] V λv V'=>∃x y z:NumV,v = .tuple #[x.val,y.val,z.val,.int .i64 (dirE rows cols i j dx dy lam)] /\
  M00 V' x (dirA rows cols i j dx dy lam 0)/\M00 V' y (dirA rows cols i j dx dy lam 1)/\M00 V' z (dirA rows cols i j dx dy lam 2):=by
 refine O0e rows cols i j a b c V _ (λ_ x _=>x.t17=dirE rows cols i j dx dy lam) ?_
 refine(c0j (p:=⟨rows,cols,a,b,c⟩) ⟨ha,hb,hl⟩ sx sy sl).mono λv V1 l1 hv=>⟨_,hv,⟨λc1 => ?_,λc1 => ?_⟩,?_⟩
 . have c1:¬K04 rows cols dx dy lam=4:=by simpa using c1
   have bad:¬((0<=i/\i<rows)/\(0<=j/\j<cols))->1=dirE rows cols i j dx dy lam:=λh=>by unfold dirE; rw[if_neg c1,if_neg h]
   refine⟨λd=>bad (by have:=of_decide_eq_true d; omega),λd1=>⟨λd=>bad (by have:=of_decide_eq_true d; omega),λd2=>⟨λd=>bad (by have:=of_decide_eq_true d; omega),λd3=>⟨λd=>bad (by have:=of_decide_eq_true d; omega),λd4 => ?_⟩⟩⟩⟩
   have e1:=of_decide_eq_false d1; have e2:=of_decide_eq_false d2; have e3:=of_decide_eq_false d3; have e4:=of_decide_eq_false d4
   unfold dirE; rw[if_neg c1,if_pos (by omega)]
 . have c1:K04 rows cols dx dy lam=4:=by simpa using c1
   unfold dirE; rw[if_pos c1]; exact c1
 rintro⟨t17⟩ V2 l2 et
 dsimp only at et ⊢
 subst et
 refine⟨λd => ?_,λd => ?_⟩
 . have d:¬dirE rows cols i j dx dy lam=0:=by simpa using d
   refine⟨_,_,_,rfl,?_,?_,?_⟩<;>(unfold dirA; rw[if_neg d]; exact M00.zero V2)
 have d:dirE rows cols i j dx dy lam=0:=by simpa using d
 have dd:=d
 unfold dirE at d
 split at d
 . simp at d
 split at d
 case isFalse=>simp at d
 rename_i ij
 obtain⟨hr,hc,px,py,pl⟩:=n09 d
 have z1:=u0c hc ij.2 sx sl
 have z2:=u0c hr ij.1 sy sl
 have z3:=t0c z1 z1
 have z4:=t0c z2 z2
 have z5:=K05 Cq.one (dirU cols j dx lam*dirU cols j dx lam)
 have za:=q0b (k:=j) hc ij.2.1 ij.2.2 sx
 have zb:=q0b (k:=i) hr ij.1.1 ij.1.2 sy
 have h1:=q0h
 have L2:=View.le_trans l1 l2
 refine(b0j (p:=⟨rows,cols,a,b,c⟩) (j0a.le ⟨ha,hb,hl⟩ L2) hr hc ij.1 ij.2 sx sy px py).mono λv V3 l3 ⟨r2,r3,hv,k2,k3⟩=>⟨r2,r3,hv,?_⟩
 have k2:M00 V3 r2 (t08 cols j dx):=k2
 have k3:M00 V3 r3 (t08 rows i dy):=k3
 refine(b02 (hl.le (View.le_trans L2 l3)) k2 (by omega) (by omega)).mono λv V4 l4 ⟨r4,hv,k4⟩=>⟨r4,hv,?_⟩
 refine(b02 (hl.le (View.le_trans L2 (View.le_trans l3 l4))) (k3.le l4) (by omega) (by omega)).mono λv V5 l5 ⟨r5,hv,k5⟩=>⟨r5,hv,?_⟩
 have k4:M00 V4 r4 (dirU cols j dx lam):=k4
 have k5:M00 V5 r5 (dirU rows i dy lam):=k5
 refine(a07 (n:=1) (by decide) (by decide)).mono λv V6 l6 ⟨r6,hv,k6⟩=>⟨r6,hv,?_⟩
 have k6:M00 V6 r6 Cq.one:=k6
 have L6:=View.le_trans l5 l6
 refine(b02 (k4.le L6) (k4.le L6) (by omega) (by omega)).mono λv V7 l7 ⟨r7,hv,k7⟩=>⟨r7,hv,?_⟩
 refine(e05 (k6.le l7) k7 (by omega) (by omega)).mono λv V8 l8 ⟨r8,hv,k8⟩=>⟨r8,hv,?_⟩
 have L8:=View.le_trans l6 (View.le_trans l7 l8)
 refine(b02 (k5.le L8) (k5.le L8) (by omega) (by omega)).mono λv V9 l9 ⟨r9,hv,k9⟩=>⟨r9,hv,?_⟩
 refine(e05 (k8.le l9) k9 (by omega) (by omega)).mono λv V10 l10 ⟨r10,hv,k10⟩=>⟨r10,hv,r4,r5,r10,by rw[dd],?_,?_,?_⟩
 . unfold dirA; rw[if_pos dd]; exact k4.le (View.le_trans L6 (View.le_trans l7 (View.le_trans l8 (View.le_trans l9 l10))))
 . unfold dirA; rw[if_pos dd]; exact k5.le (View.le_trans L8 (View.le_trans l9 l10))
 . unfold dirA; rw[if_pos dd]; exact k10
theorem A0k{V:View}{p:W05}{dx dy lam:Cq}{R C:Nat}(h:j0a V p dx dy lam)(eR:p.rows=R)(eC:p.cols=C)(n1:1<=R)(n2:R<=64)(w1:1<=C)(w2:C<=64)(sx:dx.sz<=64)(sy:dy.sz<=64)(sl:lam.sz<=64)(px:posQ dx)(py:posQ dy)(pl:posQ lam) :
 a00 Tryz.prog K0e #[.int .i64 (R:Int),.int .i64 (C:Int),.func (.func D08) #[p.val] #[]] V λv V'=>∃g:B05,v=g.val/\D04 1 Go.Vc.boolC V' g.rows (matL R C λi j=>trvB p.rows p.cols i j dx dy lam):=by
 let K:Nat->Nat->Bool:=λi j=>trvB p.rows p.cols i j dx dy lam
 refine j06 R C ⟨p⟩ V _
  (λ_ x V'=>∃t:Nat,x.t16=t/\t<=R/\x.o13.length=R/\x05 1 Go.Vc.boolC x.o0 V' x.o13 R (λi=>if i<t then rowL C (K i)else [])) (λ_ x _=>R-x.t16.toNat)
  (λc x V'=>∃t k:Nat,c.t8=t/\c.t16=t/\t<R/\x.t20=k/\k<=C/\x.o13.length=R/\x05 1 Go.Vc.boolC x.o0 V' x.o13 R (λi=>if i<t then rowL C (K i)else if i=t then rowL k (K t)else [])) (λ_ x _=>C-x.t20.toNat) ?_
 rw[Int.toNat_natCast]
 refine⟨⟨by omega,by omega,by omega,by omega⟩,⟨0,rfl,by omega,by simp,?_⟩,?_⟩
 . rw[D0t]; exact(e0f V R).congr λi _=>by rw[if_neg (by omega)]
 rintro⟨t16,o0,o6,o13⟩ V2 l2 ⟨t,et,ht,hol,hR⟩
 dsimp only at et hol hR ⊢
 subst et
 refine⟨λhlt=>⟨⟨t,0,rfl,rfl,by have:=of_decide_eq_true hlt; omega,rfl,by omega,hol,hR.congr λi hi => ?_⟩,?_⟩,λhge => ?_⟩
 . by_cases e:i<t
   . rw[if_pos e,if_pos e]
   . rw[if_neg e,if_neg e]
     split<;>rfl
 . rintro⟨t20,o0',o13'⟩ V3 l3 ⟨t',k,et,_,htR,ek,hk,hol',hR'⟩
   dsimp only at et ek hol' hR' ⊢
   obtain rfl:t'=t:=by omega
   subst ek
   refine⟨λhlt2 => ?_,λhge2 => ?_⟩
   . have hkC:k<C:=by have:=of_decide_eq_true hlt2; omega
     obtain⟨s3,e3,q1,q2,q3,⟨o3,q4,q5,q6⟩,q7⟩:=hR'.row (i:=t') htR
     rw[if_neg (by omega),if_pos rfl]at q1 q6
     rw[Z00]at q1
     refine⟨⟨by omega,by omega⟩,s3,by rw[Int.toNat_natCast,Nat.mul_one,Nat.zero_add]; exact e3,(t0m (h.le (View.le_trans l2 l3)) (by omega) (by omega) (by omega) (by omega) sx sy sl px py pl).mono λv V3' l3' hv=>⟨_,hv,λb1 V4 l4 _ hb1 => ?_⟩⟩
     have hnew:V4.has (some (Addr.mk b1 0 none)) [.bool (K t' k)]:=M04 (cs:=[.bool (K t' k)]) (j:=0) hb1 (λi v hv=>by rw[Nat.zero_add]; exact hv) rfl
     have L4:=View.le_trans l3' l4
     refine⟨o3,_,⟨q2,q3⟩,g0d L4 q4,q5,.inr hnew,rfl,oneL (V:=V4) (b:=K t' k) rfl,by unfold maxLen; omega,by omega,λ_ h2=>q7 1 (by omega) h2,λa1 c1 m1 ha=>⟨⟨by omega,by omega⟩,by rw[hol',Int.toNat_natCast]; omega,?_⟩⟩
     have:=(hR'.le Go.Vc.boolC.le L4).app (i:=t') htR e3 (z:=K t' k) rfl rfl (o':=o3) (by rw[if_neg (by omega),if_pos rfl]; exact q6.imp (Go.Vc.boolC.le L4)) ha
     rw[i64w (by omega) (by omega)]
     refine⟨⟨t',k+1,rfl,rfl,htR,by omega,by omega,by simp[hol'],?_⟩,by omega⟩
     have e1:(0+Int.toNat (t':Int)*1)=t':=by omega
     rw[e1]
     refine this.congr λi hi => ?_
     by_cases e:i=t'
     . subst e
       simp only[if_true,Nat.lt_irrefl,if_false]
       exact H0a _ _
     . simp only[if_neg e]
   . have e:k=C:=by have:=of_decide_eq_false hge2; omega
     subst e
     rw[i64w (by omega) (by omega)]
     refine⟨⟨t'+1,by omega,by omega,hol',hR'.congr λi hi => ?_⟩,by omega⟩
     by_cases e:i<t'
     . rw[if_pos e,if_pos (by omega)]
     . rw[if_neg e]
       by_cases e2:i=t'
       . subst e2; rw[if_pos rfl,if_pos (by omega)]
       . rw[if_neg e2,if_neg (by omega)]
 . have e:t=R:=by have:=of_decide_eq_false hge; omega
   subst e
   refine⟨by decide,λV5 l5 m5 b4 V6 l6 hb4 => ?_⟩
   have hR2:x05 1 Go.Vc.boolC o0 V2 o13 t (λi=>rowL C (K i)):=hR.congr λi hi=>by rw[if_pos hi]
   have hG:D04 1 Go.Vc.boolC V6 ⟨some (Addr.mk b4 0 none),t,t⟩ (matL t C K):=hR2.knownL Go.Vc.boolC.le hol (View.le_trans l5 l6) (λb cs g=>l6 _ _ (m5 _ _ g)) hb4
   refine(b0f hG).mono λv V7 l7 ⟨r,hv,hr⟩=>⟨r,_,hv,r,rfl,?_⟩
   rw[W0r _ n1 n2 w1 w2]at hr
   exact hr
def i0i(rows cols:Int)(dx dy lam:Cq):List (List Bool):=if K04 rows cols dx dy lam=0 then matL rows.toNat cols.toNat (λi j=>trvB rows cols i j dx dy lam)else []
theorem a0s{V:View}{a b c:NumV}{rows cols:Int}{dx dy lam:Cq}(ha:M00 V a dx)(hb:M00 V b dy)(hl:M00 V c lam)(sx:dx.sz<=64)(sy:dy.sz<=64)(sl:lam.sz<=64) :
 a00 Tryz.prog M0m #[.int .i64 rows,.int .i64 cols,a.val,b.val,c.val] V λv V'=>∃g:B05,v = .tuple #[g.val,.int .i64 (K04 rows cols dx dy lam)]/\D04 1 Go.Vc.boolC V' g.rows (i0i rows cols dx dy lam):=by
 refine E0l rows cols a b c V _ ((c0j (p:=⟨rows,cols,a,b,c⟩) ⟨ha,hb,hl⟩ sx sy sl).mono λv V1 l1 hv=>⟨_,hv,λd => ?_,λd => ?_⟩)
 . have d:¬K04 rows cols dx dy lam=0:=by simpa using d
   exact⟨_,rfl,by unfold i0i; rw[if_neg d]; exact t00.nil⟩
 . have d:K04 rows cols dx dy lam=0:=by simpa using d
   obtain⟨hr,hc,px,py,pl⟩:=n09 d
   obtain⟨R,eR⟩:∃R:Nat,rows=R:=⟨rows.toNat,by omega⟩
   obtain⟨C,eC⟩:∃C:Nat,cols=C:=⟨cols.toNat,by omega⟩
   subst eR; subst eC
   refine(A0k (p:=⟨R,C,a,b,c⟩) (j0a.le ⟨ha,hb,hl⟩ l1) rfl rfl (by omega) (by omega) (by omega) (by omega) sx sy sl px py pl).mono λv V2 l2 ⟨g,hv,hg⟩=>⟨g,hv,g,by rw[d],?_⟩
   unfold i0i
   rw[if_pos d,Int.toNat_natCast,Int.toNat_natCast]
   exact hg
/- The reference. -/
theorem w0e{V:View}{x:NumV}{n k:Int}{d:Cq}(h:lenB n.toNat=true)(k0:0<=k/\k<n)(hx:QAt V x d)(hd:d.sz<=64) :
 a00 Tryz.prog S0b #[.int .i64 n,.int .i64 k,x.val] V λv V'=>∃r:NumV,v=r.val/\QAt V' r (t08 n k d):=by
 have l:=lenI h
 have ro:=p0h l k0.1 k0.2
 have z1:=W06 ro
 have z2:=a0u (n:=n) l hd
 refine I0b n k x V _ ((u0e n k).mono λv V1 l1 hv=>⟨ordI n k,0,by rw[hv]; unfold ordV; rw[if_pos h,if_pos k0],?_⟩)
 refine(f06 ro.1 ro.2).mono λv V2 l2 ⟨r3,hv,h3⟩=>⟨r3,hv,(f06 (n:=n) (by omega) (by omega)).mono λv V3 l3 ⟨r4,hv,h4⟩=>⟨r4,hv,?_⟩⟩
 have h3:QAt V2 r3 (intQ (ordI n k)):=h3
 have h4:QAt V3 r4 (intQ n):=h4
 refine(F05 h4 (hx.le (View.le_trans l1 (View.le_trans l2 l3))) (Nat.le_trans (W06 (by omega)) (by decide)) (by omega)).mono λv V4 l4 ⟨r5,hv,h5⟩=>⟨r5,hv,?_⟩
 exact(t0k (h3.le (View.le_trans l3 l4)) h5 (by omega) (by omega)).mono λv V5 l5 ⟨r6,e,hv,h6,_⟩=>⟨r6,e,hv,r6,rfl,h6⟩
theorem x0e{V:View}{a b c:NumV}{rows cols i j:Int}{dx dy lam:Cq}(ha:QAt V a dx)(hb:QAt V b dy)(hl:QAt V c lam)(sx:dx.sz<=64)(sy:dy.sz<=64)(sl:lam.sz<=64) :
 a00 Tryz.prog Q0b #[.int .i64 rows,.int .i64 cols,.int .i64 i,.int .i64 j,a.val,b.val,c.val] V λv _=>v = .int .i64 (dirE rows cols i j dx dy lam):=by
 have four:¬(lenB rows.toNat=true/\lenB cols.toNat=true)->Value.int .i64 4 = .int .i64 (dirE rows cols i j dx dy lam):=λh=>by
  have:K04 rows cols dx dy lam=4:=by unfold K04; rw[if_neg h]
  unfold dirE; rw[if_pos this]
 refine J0b rows cols i j a b c V _ ((z0d rows).mono λv V1 l1 hv=>⟨_,hv,λc1=>four λx=>by rw[x.1]at c1; simp at c1,λc1=>(z0d cols).mono λv V2 l2 hv=>⟨_,hv,λc2=>four λx=>by rw[x.2]at c2; simp at c2,λc2 => ?_⟩⟩)
 have c1:lenB rows.toNat=true:=by simpa using c1
 have c2:lenB cols.toNat=true:=by simpa using c2
 have n4:K04 rows cols dx dy lam=if posQ dx/\posQ dy/\posQ lam then 0 else 1:=by unfold K04; rw[if_pos ⟨c1,c2⟩]
 have n4':¬K04 rows cols dx dy lam=4:=by rw[n4]; split<;>decide
 have bad:¬((0<=i/\i<rows)/\(0<=j/\j<cols))->Value.int .i64 1 = .int .i64 (dirE rows cols i j dx dy lam):=λh=>by unfold dirE; rw[if_neg n4',if_neg h]
 refine⟨λd=>bad (by have:=of_decide_eq_true d; omega),λd1=>⟨λd=>bad (by have:=of_decide_eq_true d; omega),λd2=>⟨λd=>bad (by have:=of_decide_eq_true d; omega),λd3=>⟨λd=>bad (by have:=of_decide_eq_true d; omega),λd4 => ?_⟩⟩⟩⟩
 have e1:=of_decide_eq_false d1; have e2:=of_decide_eq_false d2; have e3:=of_decide_eq_false d3; have e4:=of_decide_eq_false d4
 have ij:(0<=i/\i<rows)/\(0<=j/\j<cols):=by omega
 have eD:dirE rows cols i j dx dy lam=if posQ dx/\posQ dy/\posQ lam then 0 else 1:=by unfold dirE; rw[if_neg n4',if_pos ij,n4]
 have no:¬(posQ dx/\posQ dy/\posQ lam)->Value.int .i64 1 = .int .i64 (dirE rows cols i j dx dy lam):=λh=>by rw[eD,if_neg h]
 have ng:∀ {z:Cq},posQ z->(!decide (z.im=0/\0<z.re))=true->False:=λ{z} h g=>by rw[decide_eq_true (show z.im=0/\0<z.re from h)]at g; simp at g
 refine(p0b (ha.le (View.le_trans l1 l2)) (by omega)).mono λv V3 l3 hv=>⟨_,hv,λg=>no λx=>ng x.1 g,λg1 => ?_⟩
 refine(p0b (hb.le (View.le_trans l1 (View.le_trans l2 l3))) (by omega)).mono λv V4 l4 hv=>⟨_,hv,λg=>no λx=>ng x.2.1 g,λg2 => ?_⟩
 refine(p0b (hl.le (View.le_trans l1 (View.le_trans l2 (View.le_trans l3 l4)))) (by omega)).mono λv V5 l5 hv=>⟨_,hv,λg=>no λx=>ng x.2.2 g,λg3 => ?_⟩
 have y:∀ {z:Cq},(!decide (z.im=0/\0<z.re))=false->posQ z:=λ{z} g=>by
  by_cases q:z.im=0/\0<z.re
  . exact q
  . rw[decide_eq_false q]at g; simp at g
 rw[eD,if_pos ⟨y g1,y g2,y g3⟩]
theorem O0a{V:View}{a b c:NumV}{rows cols i j:Int}{dx dy lam:Cq}(ha:QAt V a dx)(hb:QAt V b dy)(hl:QAt V c lam)(sx:dx.sz<=64)(sy:dy.sz<=64)(sl:lam.sz<=64)(lr:lenB rows.toNat=true)(lc:lenB cols.toNat=true)(i0:0<=i/\i<rows)(j0:0<=j/\j<cols) :
 a00 Tryz.prog T09 #[.int .i64 rows,.int .i64 cols,.int .i64 i,.int .i64 j,a.val,b.val,c.val] V λv V'=>∃x y z:NumV,v = .tuple #[x.val,y.val,z.val]/\QAt V' x (dirU cols j dx lam)/\QAt V' y (dirU rows i dy lam)/\QAt V' z (dirW rows cols i j dx dy lam):=by
 have hr:=lenI lr; have hc:=lenI lc
 have z1:=u0c hc j0 sx sl
 have z2:=u0c hr i0 sy sl
 have z3:=t0c z1 z1
 have z4:=t0c z2 z2
 have z5:=y0e (dirU cols j dx lam*dirU cols j dx lam) (dirU rows i dy lam*dirU rows i dy lam)
 have za:=q0b (k:=j) hc j0.1 j0.2 sx
 have zb:=q0b (k:=i) hr i0.1 i0.2 sy
 have h1:=q0h
 refine t09 rows cols i j a b c V _ ((w0e lc j0 ha sx).mono λv V1 l1 ⟨r1,hv,k1⟩=>⟨r1,hv,?_⟩)
 refine(F05 (hl.le l1) k1 (by omega) (by omega)).mono λv V2 l2 ⟨r2,hv,k2⟩=>⟨r2,hv,?_⟩
 have k2:QAt V2 r2 (dirU cols j dx lam):=k2
 have L2:=View.le_trans l1 l2
 refine(w0e lr i0 (hb.le L2) sy).mono λv V3 l3 ⟨r3,hv,k3⟩=>⟨r3,hv,?_⟩
 refine(F05 (hl.le (View.le_trans L2 l3)) k3 (by omega) (by omega)).mono λv V4 l4 ⟨r4,hv,k4⟩=>⟨r4,hv,?_⟩
 have k4:QAt V4 r4 (dirU rows i dy lam):=k4
 refine(f06 (n:=1) (by decide) (by decide)).mono λv V5 l5 ⟨r5,hv,k5⟩=>⟨r5,hv,?_⟩
 have k5:QAt V5 r5 Cq.one:=k5
 have M5:=View.le_trans l3 (View.le_trans l4 l5)
 refine(F05 (k2.le M5) (k2.le M5) (by omega) (by omega)).mono λv V6 l6 ⟨r6,hv,k6⟩=>⟨r6,hv,?_⟩
 refine(F05 (k4.le (View.le_trans l5 l6)) (k4.le (View.le_trans l5 l6)) (by omega) (by omega)).mono λv V7 l7 ⟨r7,hv,k7⟩=>⟨r7,hv,?_⟩
 refine(s0e (k6.le l7) k7 (by omega) (by omega)).mono λv V8 l8 ⟨r8,hv,k8⟩=>⟨r8,hv,?_⟩
 refine(s0k (k5.le (View.le_trans l6 (View.le_trans l7 l8))) k8 (by omega) (by omega)).mono λv V9 l9 ⟨r9,hv,k9⟩=>⟨r9,hv,r2,r4,r9,rfl,?_,?_,?_⟩
 . exact k2.le (View.le_trans M5 (View.le_trans l6 (View.le_trans l7 (View.le_trans l8 l9))))
 . exact k4.le (View.le_trans l5 (View.le_trans l6 (View.le_trans l7 (View.le_trans l8 l9))))
 . rw[S0s]at k9; exact k9
theorem s0h{rows cols:Int}{dx dy lam:Cq}(h:K04 rows cols dx dy lam=0):lenB rows.toNat=true/\lenB cols.toNat=true:=by
 unfold K04 at h
 split at h
 . assumption
 . simp at h
theorem c0f{V:View}{a b c:NumV}{rows cols i j:Int}{dx dy lam:Cq}(ha:QAt V a dx)(hb:QAt V b dy)(hl:QAt V c lam)(sx:dx.sz<=64)(sy:dy.sz<=64)(sl:lam.sz<=64) :
 a00 Tryz.prog S09 #[.int .i64 rows,.int .i64 cols,.int .i64 i,.int .i64 j,a.val,b.val,c.val] V λv V'=>∃x y z:NumV,v = .tuple #[x.val,y.val,z.val,.int .i64 (dirE rows cols i j dx dy lam)] /\
  QAt V' x (dirA rows cols i j dx dy lam 0)/\QAt V' y (dirA rows cols i j dx dy lam 1)/\QAt V' z (dirA rows cols i j dx dy lam 2):=by
 refine u09 rows cols i j a b c V _ ((x0e ha hb hl sx sy sl).mono λv V1 l1 hv=>⟨_,hv,λd => ?_,λd => ?_⟩)
 . have d:¬dirE rows cols i j dx dy lam=0:=by simpa using d
   refine(f06 (n:=0) (by decide) (by decide)).mono λv V2 l2 ⟨r,hv,hr⟩=>⟨r,hv,r,r,r,rfl,?_,?_,?_⟩<;>(unfold dirA; rw[if_neg d]; exact hr)
 . have dd:dirE rows cols i j dx dy lam=0:=by simpa using d
   have d:=dd
   unfold dirE at d
   split at d
   . simp at d
   split at d
   case isFalse=>simp at d
   rename_i ij
   obtain⟨lr,lc⟩:=s0h d
   refine(O0a (ha.le l1) (hb.le l1) (hl.le l1) sx sy sl lr lc ij.1 ij.2).mono λv V2 _ ⟨x,y,z,hv,kx,ky,kz⟩=>⟨x,y,z,hv,x,y,z,by rw[dd],?_,?_,?_⟩
   . unfold dirA; rw[if_pos dd]; exact kx
   . unfold dirA; rw[if_pos dd]; exact ky
   . unfold dirA; rw[if_pos dd]; exact kz
theorem e0u(b:Bool):∀v∈[Value.bool b],Value.oneCell' v=true:=by intro v hv; simp at hv; subst hv; rfl
theorem u0m{V:View}{a b c:NumV}{rows cols:Int}{dx dy lam:Cq}(ha:QAt V a dx)(hb:QAt V b dy)(hl:QAt V c lam)(sx:dx.sz<=64)(sy:dy.sz<=64)(sl:lam.sz<=64) :
 a00 Tryz.prog N0c #[.int .i64 rows,.int .i64 cols,a.val,b.val,c.val] V λv V'=>∃r:Sl,v = .tuple #[r.v,.int .i64 (K04 rows cols dx dy lam)]/\D04 1 Go.Vc.boolC V' r (i0i rows cols dx dy lam):=by
 have eE:dirE rows cols 0 0 dx dy lam=K04 rows cols dx dy lam:=by
  unfold dirE
  split
  . rename_i h; rw[h]
  . split
    . rfl
    . rename_i h4 hn
      unfold K04 at h4 ⊢
      split at h4
      . rename_i l
        have:=lenI l.1; have:=lenI l.2
        exact absurd ⟨⟨by omega,by omega⟩,by omega,by omega⟩ hn
      . exact absurd rfl h4
 let K:Nat->Nat->Bool:=λi j=>trvB rows cols i j dx dy lam
 refine Z0b rows cols a b c V _
  (λ_ x V'=>∃(t:Nat) (l:List Value),K04 rows cols dx dy lam=0/\x.t14=t/\(t:Int)<=rows/\K02 1 x.t13l x.t13c x.o13 l/\x.t13l=t/\O01 1 (λV x row=>∃s:Sl,x=[s.v]/\t00 1 Go.Vc.boolC V s row) V' l (matL t cols.toNat K)) (λ_ x _=>rows.toNat-x.t14.toNat)
  (λc x V'=>∃(t k:Nat) (l l2:List Value),K04 rows cols dx dy lam=0/\c.t14=t/\(t:Int)<rows/\K02 1 c.t13l c.t13c x.o13 l/\c.t13l=t/\O01 1 (λV x row=>∃s:Sl,x=[s.v]/\t00 1 Go.Vc.boolC V s row) V' l (matL t cols.toNat K) /\
    x.t16=k/\(k:Int)<=cols/\K02 1 x.t15l x.t15c x.o15 l2/\x.t15l=k/\O01 1 Go.Vc.boolC V' l2 (rowL k (K t))) (λ_ x _=>cols.toNat-x.t16.toNat) ?_
 refine(x0e (i:=0) (j:=0) ha hb hl sx sy sl).mono λv V1 l1 hv=>⟨_,hv,λd => ?_,λd => ?_⟩
 . have d:¬dirE rows cols 0 0 dx dy lam=0:=by simpa using d
   rw[eE]at d ⊢
   exact⟨_,rfl,by unfold i0i; rw[if_neg d]; exact t00.nil⟩
 have d:dirE rows cols 0 0 dx dy lam=0:=by simpa using d
 rw[eE]at d
 obtain⟨hr,hc,px,py,pl⟩:=n09 d
 obtain⟨lr,lc⟩:=s0h d
 refine⟨⟨0,[],d,rfl,by omega,K02.nil,rfl,rfl⟩,?_⟩
 rintro⟨t13l,t13c,t14,o13⟩ V2 l2 ⟨t,l,_,et,ht,hL,el,hC⟩
 dsimp only at et hL el hC ⊢
 subst et; subst el
 have rowP:∀ {V' V'':View},View.le V' V''->∀x row,(∃s:Sl,x=[s.v]/\t00 1 Go.Vc.boolC V' s row)->(∃s:Sl,x=[s.v]/\t00 1 Go.Vc.boolC V'' s row):=λhle x row ⟨s,e,hs⟩=>⟨s,e,t00.le (Go.Vc.boolC.le hle) hle hs⟩
 refine⟨λhlt=>⟨⟨t13l,0,l,[],d,rfl,of_decide_eq_true hlt,hL,rfl,hC,rfl,by omega,K02.nil,rfl,rfl⟩,?_⟩,λhge => ?_⟩
 . rintro⟨t15l,t15c,t16,o13',o15⟩ V3 l3 ⟨t',k,l',l2',_,et,htr,hL',el,hC',ek,hk,hL2,el2,hC2⟩
   dsimp only at et hL' el hC' ek hL2 el2 hC2 ⊢
   obtain rfl:t'=t13l:=by omega
   subst ek; subst el2
   have L3:=View.le_trans l1 (View.le_trans l2 l3)
   refine⟨λhlt2 => ?_,λhge2 => ?_⟩
   . have hk2:(t15l:Int)<cols:=of_decide_eq_true hlt2
     refine(O0a (i:=(t':Int)) (j:=(t15l:Int)) (ha.le L3) (hb.le L3) (hl.le L3) sx sy sl lr lc (by omega) (by omega)).mono λv V4 l4 ⟨x,y,z,hv,_,_,kz⟩=>⟨x,y,z,hv,?_⟩
     refine(g0a kz).mono λv V5 l5 hv=>⟨_,hv,λb1 V6 l6 _ hb1 => ?_⟩
     have eb:decide ((cmpR (dirW rows cols t' t15l dx dy lam).re 0:Int)>0)=K t' t15l:=by
      show _=trvB _ _ _ _ _ _ _
      unfold trvB
      rw[decide_eq_decide]
      have:=n0h (x:=(dirW rows cols t' t15l dx dy lam).re)
      constructor
      . intro g; exact Classical.byContradiction λn=>by have:=this.2 n; omega
      . intro g; exact Classical.byContradiction λn=>(this.1 (by omega)) g
     rw[eb]at hb1
     have hnew:V6.has (some (Addr.mk b1 0 none)) [.bool (K t' t15l)]:=M04 (cs:=[.bool (K t' t15l)]) (j:=0) hb1 (λi v hv=>by rw[Nat.zero_add]; exact hv) rfl
     refine⟨l2',_,hL2,hnew,rfl,e0u _,by unfold maxLen; omega,by omega,λc1 l3' hl3 => ?_⟩
     rw[i64w (by omega) (by omega)]
     have L6:=View.le_trans l4 (View.le_trans l5 l6)
     refine⟨⟨t',t15l+1,l',_,d,rfl,htr,hL',rfl,hC'.imp (rowP L6),by omega,by omega,hl3,rfl,?_⟩,by omega⟩
     rw[<-H0a]
     exact(hC2.imp (Go.Vc.boolC.le L6)).append (O01.one rfl rfl)
   . have e:(t15l:Int)=cols:=by have:=of_decide_eq_false hge2; omega
     have e':t15l=cols.toNat:=by omega
     intro b2 V7 l7 hb2 b3 V8 l8 _ hb3
     have hnew:V8.has (some (Addr.mk b3 0 none)) [.slice (lstA b2 t15c) t15l t15c]:=M04 (cs:=[.slice (lstA b2 t15c) t15l t15c]) (j:=0) hb3 (λi v hv=>by rw[Nat.zero_add]; exact hv) rfl
     refine⟨l',_,hL',hnew,rfl,by intro v hv; simp at hv; subst hv; rfl,by unfold maxLen; omega,by omega,λc2 l6 hl6 => ?_⟩
     rw[i64w (by omega) (by omega)]
     refine⟨⟨t'+1,_,d,by omega,by omega,hl6,rfl,?_⟩,by omega⟩
     have hrow:t00 1 Go.Vc.boolC V8 ⟨lstA b2 t15c,t15l,t15c⟩ (rowL cols.toNat (K t')):=by
      rw[<-e']
      exact t00.le (Go.Vc.boolC.le l8) l8 (o06 hL2 hb2 (hC2.imp (Go.Vc.boolC.le l7)) (by rw[Z00]))
     have em:matL (t'+1) cols.toNat K=matL t' cols.toNat K++[rowL cols.toNat (K t')]:=by unfold matL; rw[List.range_succ,List.map_append]; rfl
     rw[em]
     exact(hC'.imp (rowP (View.le_trans l7 l8))).append (O01.one rfl ⟨⟨lstA b2 t15c,t15l,t15c⟩,rfl,hrow⟩)
 . have e:(t13l:Int)=rows:=by have:=of_decide_eq_false hge; omega
   have e':t13l=rows.toNat:=by omega
   intro b4 V9 l9 hb4
   refine⟨⟨lstA b4 t13c,t13l,t13c⟩,by rw[d],?_⟩
   unfold i0i
   rw[if_pos d,<-e']
   exact o06 hL hb4 (hC.imp (rowP l9)) (by rw[H01])
theorem T0f{V:View}{g:B05}{rows:List (List Bool)}(h:D04 1 boolC V g.rows rows)(hn:rows.length<=64)(hb:∀row,row∈rows->row.length<=2^30) :
 a00 Tryz.prog b09 #[g.val] V λv V'=>∃r:Sl,v=r.v/\D04 1 boolC V' r rows:=by
 have rowP:∀ {V' V'':View},View.le V' V''->∀x row,(∃s:Sl,x=[s.v]/\t00 1 boolC V' s row)->(∃s:Sl,x=[s.v]/\t00 1 boolC V'' s row):=λhle x row ⟨s,e,hs⟩=>⟨s,e,t00.le (boolC.le hle) hle hs⟩
 refine T06 g V _
  (λ_ x V'=>∃(t:Nat) (l:List Value),x.t15=t/\t<=rows.length/\K02 1 x.t5l x.t5c x.o5 l/\x.t5l=t/\O01 1 (λV x row=>∃s:Sl,x=[s.v]/\t00 1 boolC V s row) V' l (rows.take t)) (λ_ x _=>rows.length-x.t15.toNat) ?_
 refine(f0i h).mono λv V1 l1 hv=>⟨_,_,hv,⟨0,[],rfl,by omega,K02.nil,rfl,rfl⟩,?_⟩
 rintro⟨t5l,t5c,t15,o5⟩ V2 l2 ⟨t,l,et,ht,hL,el,hC⟩
 dsimp only at et hL el hC ⊢
 subst et; subst el
 refine⟨λhlt => ?_,λhge => ?_⟩
 . have hk:t5l<rows.length:=by have:=of_decide_eq_true hlt; omega
   have ek:rows[t5l]?=some (rows.getD t5l []):=i0g hk []
   refine(U0r (i:=(t5l:Int)) (D04.le boolC.le (View.le_trans l1 l2) h) hb).mono λv V3 l3 ⟨r,e,hv,q1,_⟩=>⟨r,e,hv,λb1 V4 l4 _ hb1 => ?_⟩
   obtain⟨_,hr⟩:=q1 ⟨by omega,by omega⟩
   rw[Int.toNat_natCast]at hr
   have hnew:V4.has (some (Addr.mk b1 0 none)) [r.v]:=M04 (cs:=[r.v]) (j:=0) hb1 (λi v hv=>by rw[Nat.zero_add]; exact hv) rfl
   refine⟨l,_,hL,hnew,rfl,by intro v hv; simp at hv; subst hv; rfl,by unfold maxLen; omega,by omega,λc1 l3' hl3 => ?_⟩
   rw[i64w (by omega) (by omega)]
   refine⟨⟨t5l+1,_,by omega,by omega,hl3,rfl,?_⟩,by omega⟩
   have tk:rows.take (t5l+1)=rows.take t5l++[rows.getD t5l []]:=by rw[List.take_add_one,ek]; rfl
   rw[tk]
   exact(hC.imp (rowP (View.le_trans l3 l4))).append (O01.one rfl ⟨r,rfl,t00.le (boolC.le l4) l4 hr⟩)
 . have e:t5l=rows.length:=by have:=of_decide_eq_false hge; omega
   subst e
   rw[List.take_length]at hC
   intro b2 V5 l5 hb2
   exact⟨_,rfl,o06 hL hb2 (hC.imp (rowP l5)) rfl⟩
theorem b0s(rows cols:Int)(dx dy lam:Cq):(i0i rows cols dx dy lam).length<=64/\∀row,row∈i0i rows cols dx dy lam->row.length<=64:=by
 unfold i0i
 split
 . rename_i h
   obtain⟨hr,hc,_⟩:=n09 h
   refine⟨by rw[H01]; omega,λrow hrow => ?_⟩
   unfold matL at hrow
   obtain⟨i,_,rfl⟩:=List.mem_map.1 hrow
   rw[Z00]; omega
 . exact⟨by simp,λrow h=>by simp at h⟩
theorem O0n{rows cols i j:Int}{dx dy lam:Cq}(sx:dx.sz<=64)(sy:dy.sz<=64)(sl:lam.sz<=64)(k:Nat):(dirA rows cols i j dx dy lam k).sz<=2^40:=by
 unfold dirA
 split
 case isFalse=>exact Nat.le_trans P0a (by decide)
 rename_i d
 unfold dirE at d
 split at d
 . simp at d
 split at d
 case isFalse=>simp at d
 rename_i ij
 obtain⟨hr,hc,_⟩:=n09 d
 have z1:=u0c hc ij.2 sx sl
 have z2:=u0c hr ij.1 sy sl
 have z3:=d0u hr hc ij.1 ij.2 sx sy sl
 split
 . omega
 . split<;>omega
set_option maxHeartbeats 2000000 in
theorem j0i{V:View}{p:a09}{i j:Int}(ix:ratI p.dx)(iy:ratI p.dy)(il:ratI p.lam) :
 a00 Tryz.prog Q09 #[p.val,.int .i64 i,.int .i64 j] V λv _=>v = .bool true:=by
 have sx:=o0h ix; have sy:=o0h iy; have sl:=o0h il
 obtain⟨KR,eK⟩:∃KR,KR=i0i p.rows p.cols (ratQ p.dx) (ratQ p.dy) (ratQ p.lam):=⟨_,rfl⟩
 obtain⟨k1,k2⟩:=b0s p.rows p.cols (ratQ p.dx) (ratQ p.dy) (ratQ p.lam)
 rw[<-eK]at k1 k2
 refine x09 p i j V _ (λ_ _ _=>True) (λ_ _ _=>True) (λ_ _ _=>True)
  (λc _ V'=>D04 1 Go.Vc.boolC V' c.t18 KR/\D04 1 Go.Vc.boolC V' c.t19 KR)
  (λc x V'=>∃t:Nat,x.t174=t/\t<=KR.length/\D04 1 Go.Vc.boolC V' c.t18 KR/\D04 1 Go.Vc.boolC V' c.t19 KR) (λ_ x _=>KR.length-x.t174.toNat)
  (λc x V'=>∃t k:Nat,c.t174=t/\c.t20=t/\t<KR.length/\x.t193=k/\k<=(KR.getD t []).length/\D04 1 Go.Vc.boolC V' c.t18 KR/\D04 1 Go.Vc.boolC V' c.t19 KR) (λc x _=>64-x.t193.toNat) ?_
 refine(z0k p.rows i).mono λv V1 l1 hv => ?_
 obtain⟨a,b,e⟩:∃a b:Int,ordV p.rows i = .tuple #[.int .i64 a,.int .i64 b]:=by
  unfold ordV; split<;>(try split)<;>exact⟨_,_,rfl⟩
 refine⟨a,b,by rw[hv,e],(u0e p.rows i).mono λv V2 l2 hv=>⟨a,b,by rw[hv,e],⟨λc=>absurd c (by simp),λ_=>⟨λc=>absurd c (by simp),λ_=>trivial⟩⟩,?_⟩⟩
 rintro x1 V3 l3 _
 refine(c07 ix).mono λv V4 l4 ⟨r5,hv,h5⟩=>⟨r5,hv,(c07 iy).mono λv V5 l5 ⟨r6,hv,h6⟩=>⟨r6,hv,(c07 il).mono λv V6 l6 ⟨r7,hv,h7⟩=>⟨r7,hv,?_⟩⟩⟩
 refine(g0i (h5.le (View.le_trans l5 l6)) (h6.le l6) h7 sx sy sl).mono λv V7 l7 ⟨r8,r9,r10,hv,h8,h9,h10⟩=>⟨r8,r9,r10,_,hv,?_⟩
 refine(n06 ix).mono λv V8 l8 ⟨r12,hv,h12⟩=>⟨r12,hv,(n06 iy).mono λv V9 l9 ⟨r13,hv,h13⟩=>⟨r13,hv,(n06 il).mono λv V10 l10 ⟨r14,hv,h14⟩=>⟨r14,hv,?_⟩⟩⟩
 refine(c0f (h12.le (View.le_trans l9 l10)) (h13.le l10) h14 sx sy sl).mono λv V11 l11 ⟨r15,r16,r17,hv,h15,h16,h17⟩=>⟨r15,r16,r17,_,hv,?_⟩
 have M11:=View.le_trans l8 (View.le_trans l9 (View.le_trans l10 l11))
 refine⟨⟨λc=>absurd c (by simp),λ_=>(a0f (h8.le M11) (.inl h15) (O0n sx sy sl 0)).mono λv V13 l13 hv=>⟨_,hv,λc=>absurd c (by simp),λ_=>(a0f (h9.le (View.le_trans M11 l13)) (.inl (h16.le l13)) (O0n sx sy sl 1)).mono λv V14 l14 hv=>⟨_,hv,λc=>absurd c (by simp),λ_ =>
  (a0f (h10.le (View.le_trans M11 (View.le_trans l13 l14))) (.inl (h17.le (View.le_trans l13 l14))) (O0n sx sy sl 2)).mono λv V15 l15 hv=>⟨_,hv,λc=>absurd c (by simp),λ_=>trivial⟩⟩⟩⟩,?_⟩
 rintro x3 V12 l12 _
 have aw:∀ {V':View},a00 Tryz.prog e08 #[] V' λv V17=>∃r22:Bool,v = .bool r22/\Value.bool r22 = .bool true:=w0k.mono λv V26 _ hv=>⟨_,hv,rfl⟩
 refine⟨⟨λ_=>⟨λ_=>aw,λ_=>⟨λ_=>⟨λ_=>aw,λ_=>trivial⟩,λ_=>trivial⟩⟩,λ_=>⟨λ_=>⟨λ_=>aw,λ_=>trivial⟩,λ_=>trivial⟩⟩,?_⟩
 rintro x5 V16 l16 _
 refine(c07 ix).mono λv V20 l20 ⟨r25,hv,h25⟩=>⟨r25,hv,(c07 iy).mono λv V21 l21 ⟨r26,hv,h26⟩=>⟨r26,hv,(c07 il).mono λv V22 l22 ⟨r27,hv,h27⟩=>⟨r27,hv,?_⟩⟩⟩
 refine(a0s (h25.le (View.le_trans l21 l22)) (h26.le l22) h27 sx sy sl).mono λv V23 l23 ⟨r28,hv,h28⟩=>⟨r28,_,hv,?_⟩
 refine(n06 ix).mono λv V24 l24 ⟨r30,hv,h30⟩=>⟨r30,hv,(n06 iy).mono λv V25 l25 ⟨r31,hv,h31⟩=>⟨r31,hv,(n06 il).mono λv V26 l26 ⟨r32,hv,h32⟩=>⟨r32,hv,?_⟩⟩⟩
 refine(u0m (h30.le (View.le_trans l25 l26)) (h31.le l26) h32 sx sy sl).mono λv V27 l27 ⟨r33,hv,h33⟩=>⟨r33,_,hv,?_⟩
 rw[<-eK]at h28 h33
 refine(T0f (D04.le Go.Vc.boolC.le (View.le_trans l24 (View.le_trans l25 (View.le_trans l26 l27))) h28) k1 (λrow h=>Nat.le_trans (k2 row h) (by decide))).mono λv V28 l28 ⟨r35,hv,h35⟩=>⟨r35,hv,?_⟩
 have e33:r33.len=KR.length:=h33.len
 have e35:r35.len=KR.length:=h35.len
 refine⟨⟨λc=>absurd c (by simp),λ_=>⟨λc=>absurd c (by rw[e33,e35]; simp),λ_=>⟨D04.le Go.Vc.boolC.le l28 h33,h35⟩⟩⟩,?_⟩
 rw[e33,e35]
 rintro x10 V29 l29 ⟨m33,m35⟩
 dsimp only at m33 m35 ⊢
 refine⟨⟨0,rfl,by omega,m33,m35⟩,?_⟩
 rintro⟨t174⟩ V30 l30 ⟨t,et,ht,n33,n35⟩
 dsimp only at et n33 n35 ⊢
 subst et
 refine⟨λhlt => ?_,λhge=>aw⟩
 have hk:t<KR.length:=by have:=of_decide_eq_true hlt; omega
 have ek:=i0g hk []
 have hrow:=k2 _ (List.mem_of_getElem? ek)
 have rowA:∀ {V':View} {q:Sl},D04 1 Go.Vc.boolC V' q KR->q.len=KR.length->∃s:Sl,((0:Int)<=(t:Int)/\(t:Int)<(KR.length:Nat)/\Option.isSome q.a=true)/\V'.load (Option.map (λq=>Addr.add q (Int.toNat (t:Int)*1)) q.a)=some s.v/\t00 1 Go.Vc.boolC V' s (KR.getD t []):=λ{V' q} h hl=>by
  obtain⟨g1,s,g2,g3⟩:=h.row (t:=(t:Int)) (by omega) (by rw[Int.toNat_natCast]; exact ek)
  rw[hl]at g1
  exact⟨s,g1,g2,g3⟩
 obtain⟨s14,a1,a2,a3⟩:=rowA n35 e35
 obtain⟨s15,b1,b2,b3⟩:=rowA n33 e33
 have l14:s14.len=(KR.getD t []).length:=a3.len
 have l15:s15.len=(KR.getD t []).length:=b3.len
 refine⟨a1,s14,a2,b1,s15,b2,λc=>absurd c (by rw[l14,l15]; simp),λ_=>⟨b1,s15,b2,⟨t,0,rfl,rfl,hk,rfl,by omega,n33,n35⟩,?_⟩⟩
 rw[l15]
 rintro⟨t193⟩ V31 l31 ⟨t',k,et,_,_,ek2,hkk,q33,q35⟩
 dsimp only at et ek2 q33 q35 ⊢
 obtain rfl:t'=t:=by omega
 subst ek2
 refine⟨λhlt2 => ?_,λhge2 => ?_⟩
 . have hk2:k<(KR.getD t' []).length:=by have:=of_decide_eq_true hlt2; omega
   obtain⟨s19,c1,c2,c3⟩:=rowA q35 e35
   obtain⟨s21,d1,d2,d3⟩:=rowA q33 e33
   obtain⟨f1,x,hx,_,f2,_⟩:=t00.get c3 (t:=(k:Int)) (by omega) (by rw[Int.toNat_natCast]; exact i0g hk2 false)
   obtain⟨g1,y,hy,_,g2,_⟩:=t00.get d3 (t:=(k:Int)) (by omega) (by rw[Int.toNat_natCast]; exact i0g hk2 false)
   refine⟨c1,s19,c2,f1,_,q0m (by rw[show x=_ from hx]at f2; exact f2),d1,s21,d2,g1,_,q0m (by rw[show y=_ from hy]at g2; exact g2),λc => ?_,λ_ => ?_⟩
   . simp at c
   . rw[i64w (by omega) (by omega)]
     exact⟨⟨t',k+1,rfl,rfl,hk,by omega,by omega,q33,q35⟩,by omega⟩
 . rw[i64w (by omega) (by omega)]
   exact⟨⟨t'+1,by omega,by omega,q33,q35⟩,by omega⟩
