/- Part of the proof; it has the parts CNum1 CTr1 COpen COpen6 CRect CTr2 CFor CBack CBackL CReal CShf CLng CGate CLaw7 CLaw8. -/
import Derived.Test.YtblaagclfalaaaaPartC
import Derived.Deep.Slices
namespace Go.Proofs.Ytblaagclfalaaaa
open Go Go.Vc Go.Proofs
theorem nat_gcd_spec{V:View}{s t:Sl}{a b:Nat}(hs:NatAt V s a)(ht:NatAt V t b)(ha:wn a<=2^43)(hb:wn b<=2^43) :
 CallV Try.prog n_nat_gcd #[s.v,t.v] V λv V'=>∃r:Sl,v=r.v/\NatAt V' r (Nat.gcd a b):=by
 refine nat_gcd_vc s t V _ (λ_ x V'=>∃a' b',NatAt V' x.t0 a'/\NatAt V' x.t1 b'/\wn a'<=2^43/\wn b'<=2^43/\Nat.gcd a' b'=Nat.gcd a b) (λ_ x V'=>natVal V' x.t1) ⟨⟨a,b,hs,ht,ha,hb,rfl⟩,?_⟩
 rintro⟨x,y⟩ V1 l1 ⟨a',b',hx,hy,wa,wb,hg⟩
 simp only at hx hy ⊢
 have hyl:=hy.len
 refine⟨λhp => ?_,λhp => ?_⟩
 . simp only[gt_iff_lt,decide_eq_true_eq]at hp
   have hb0:b'≠0:=λe=>by rw[<-hy.len_zero]at e; omega
   refine(nat_div_spec hx hy wa hb0).mono λv V2 l2 ⟨q,r,hv,hq,hr⟩=>⟨q,r,hv,?_⟩
   have hlt:a'%b'<b':=Nat.mod_lt _ (by omega)
   have hwr:wn (a'%b')<=wn b':=wn_mono (Nat.le_of_lt hlt)
   refine⟨⟨b',a'%b',hy.le l2,hr,wb,by omega,?_⟩,?_⟩
   . rw[Nat.gcd_comm,<-Nat.gcd_rec,Nat.gcd_comm]; exact hg
   . rw[natVal_eq hr,natVal_eq hy]; exact hlt
 . simp only[gt_iff_lt,decide_eq_false_iff_not]at hp
   have hb0:b'=0:=hy.len_zero.1 (by omega)
   subst hb0
   rw[Nat.gcd_zero_right]at hg
   exact⟨x,rfl,by rw[<-hg]; exact hx⟩
theorem num_wholeOf_spec{V:View}{s:Sl}{n:Nat}(neg:Bool)(h:NatAt V s n) :
 CallV Try.prog n_num_wholeOf #[.bool neg,s.v] V λv V'=>∃r:WhV,v=r.val/\IntAt V' r (if neg=true then -(n:Int)else n):=by
 have hl:=h.len_zero
 refine num_wholeOf_vc neg s V _ ⟨λhn=>⟨_,rfl,?_,?_⟩,λhn=>⟨_,rfl,?_,?_⟩⟩
 . rw[if_pos hn]; simp only[gt_iff_lt,decide_eq_decide]; omega
 . rw[if_pos hn]; simpa using h
 . rw[if_neg (by simp[hn])]; symm; simp only[decide_eq_false_iff_not]; omega
 . rw[if_neg (by simp[hn])]; simpa using h
theorem num_of64_spec{V:View}{n:Int}(h0 : -9223372036854775808<=n)(h1:n<=9223372036854775807) :
 CallV Try.prog n_num_of64 #[.int .i64 n] V λv V'=>∃r:WhV,v=r.val/\IntAt V' r n:=by
 refine num_of64_vc n V _ ⟨λhn => ?_,λhn => ?_⟩
 . simp only[decide_eq_true_eq]at hn
   have e:IntKind.u64.wrap (0-IntKind.u64.wrap n) = -n:=by rw[u64m,u64m]; omega
   rw[e]
   refine(num_natOf_spec (by omega) (by omega)).mono λv V1 _ ⟨r,hv,hr⟩=>⟨r,hv,_,rfl,by simp[hn],?_⟩
   have e2:n.natAbs=(-n).toNat:=by omega
   rw[e2]; exact hr
 . simp only[decide_eq_false_iff_not]at hn
   rw[u64w (by omega) (by omega)]
   refine(num_natOf_spec (by omega) (by omega)).mono λv V1 _ ⟨r,hv,hr⟩=>⟨r,hv,_,rfl,by simp[hn],?_⟩
   have e2:n.natAbs=n.toNat:=by omega
   rw[e2]; exact hr
theorem whole_minus_spec{V:View}{x:WhV}{a:Int}(h:IntAt V x a) :
 CallV Try.prog n_whole_minus #[x.val] V λv V'=>∃r:WhV,v=r.val/\IntAt V' r (-a):=by
 refine whole_minus_vc x V _ ((num_wholeOf_spec (!x.neg) h.2).mono λv V1 _ ⟨r,hv,hr⟩=>⟨r,hv,r,rfl,?_⟩)
 have e:(if(!x.neg)=true then -(a.natAbs:Int)else(a.natAbs:Int)) = -a:=by
  rw[h.1]; simp only[Bool.not_eq_true',decide_eq_false_iff_not]; split<;>omega
 rw[e]at hr; exact hr
theorem whole_plus_spec{V:View}{x y:WhV}{a b:Int}(hx:IntAt V x a)(hy:IntAt V y b)(ha:wn a.natAbs<=2^43)(hb:wn b.natAbs<=2^43) :
 CallV Try.prog n_whole_plus #[x.val,y.val] V λv V'=>∃r:WhV,v=r.val/\IntAt V' r (a+b):=by
 have h1:=hx.1
 have h2:=hy.1
 refine whole_plus_vc x y V _ ⟨λhs => ?_,λhs => ?_⟩
 . refine(nat_add_spec hx.2 hy.2 (by omega) (by omega)).mono λv V1 l1 ⟨r,hv,hr⟩=>⟨r,hv,?_⟩
   refine(num_wholeOf_spec x.neg hr).mono λv V2 _ ⟨w,hv,hw⟩=>⟨w,hv,w,rfl,?_⟩
   have e:(if x.neg=true then -((a.natAbs+b.natAbs:Nat):Int)else((a.natAbs+b.natAbs:Nat):Int))=a+b:=by
    rw[h1,h2]at hs; rw[h1]
    by_cases p:a<0<;>by_cases q:b<0<;>simp[p,q]at hs ⊢<;>omega
   rw[e]at hw; exact hw
 . refine(nat_cmp_spec hx.2 hy.2 (by omega)).mono λv V1 l1 hv=>⟨_,hv,λhc => ?_,λhc => ?_⟩
   . have hc:b.natAbs<=a.natAbs:=by
       rcases Nat.lt_or_ge a.natAbs b.natAbs with h|h
       . rw[if_pos h]at hc; simp at hc
       . exact h
     refine(nat_sub_spec (hx.2.le l1) (hy.2.le l1) (by omega) hc).mono λv V2 l2 ⟨r,hv,hr⟩=>⟨r,hv,?_⟩
     refine(num_wholeOf_spec x.neg hr).mono λv V3 _ ⟨w,hv,hw⟩=>⟨w,hv,w,rfl,?_⟩
     have e:(if x.neg=true then -((a.natAbs-b.natAbs:Nat):Int)else((a.natAbs-b.natAbs:Nat):Int))=a+b:=by
      rw[h1,h2]at hs; rw[h1]
      by_cases p:a<0<;>by_cases q:b<0<;>simp[p,q]at hs ⊢<;>omega
     rw[e]at hw; exact hw
   . have hc:a.natAbs<=b.natAbs:=by
       rcases Nat.lt_or_ge b.natAbs a.natAbs with h|h
       . rw[if_neg (by omega),if_neg (by omega)]at hc; simp at hc
       . exact h
     refine(nat_sub_spec (hy.2.le l1) (hx.2.le l1) (by omega) hc).mono λv V2 l2 ⟨r,hv,hr⟩=>⟨r,hv,?_⟩
     refine(num_wholeOf_spec y.neg hr).mono λv V3 _ ⟨w,hv,hw⟩=>⟨w,hv,w,rfl,?_⟩
     have e:(if y.neg=true then -((b.natAbs-a.natAbs:Nat):Int)else((b.natAbs-a.natAbs:Nat):Int))=a+b:=by
      rw[h1,h2]at hs; rw[h2]
      by_cases p:a<0<;>by_cases q:b<0<;>simp[p,q]at hs ⊢<;>omega
     rw[e]at hw; exact hw
theorem sign_mul(x y a b:Int)(hx:x=if a<0 then -1 else 1)(hy:y=if b<0 then -1 else 1):a*b=x*y*(a.natAbs*b.natAbs:Nat):=by
 have ha:a=x*a.natAbs:=by rw[hx]; split<;>omega
 have hb:b=y*b.natAbs:=by rw[hy]; split<;>omega
 rw[Int.natCast_mul]
 conv=>lhs; rw[ha,hb]
 grind
theorem whole_times_spec{V:View}{x y:WhV}{a b:Int}(hx:IntAt V x a)(hy:IntAt V y b)(ha:wn a.natAbs<=2^43)(hb:wn b.natAbs<=2^43) :
 CallV Try.prog n_whole_times #[x.val,y.val] V λv V'=>∃r:WhV,v=r.val/\IntAt V' r (a*b):=by
 refine whole_times_vc x y V _ ((nat_mul_spec hx.2 hy.2 (by omega) (by omega)).mono λv V1 l1 ⟨r,hv,hr⟩=>⟨r,hv,?_⟩)
 refine(num_wholeOf_spec (!(x.neg==y.neg)) hr).mono λv V2 _ ⟨w,hv,hw⟩=>⟨w,hv,w,rfl,?_⟩
 have e:(if(!(x.neg==y.neg))=true then -((a.natAbs*b.natAbs:Nat):Int)else((a.natAbs*b.natAbs:Nat):Int))=a*b:=by
  rw[sign_mul _ _ a b rfl rfl,hx.1,hy.1]
  by_cases p:a<0<;>by_cases q:b<0<;>simp[p,q]
 rw[e]at hw; exact hw
theorem whole_scaled_spec{V:View}{x:WhV}{s:Sl}{a:Int}{n:Nat}(hx:IntAt V x a)(hs:NatAt V s n)(ha:wn a.natAbs<=2^43)(hb:wn n<=2^43) :
 CallV Try.prog n_whole_scaled #[x.val,s.v] V λv V'=>∃r:WhV,v=r.val/\IntAt V' r (a*n):=by
 refine whole_scaled_vc x s V _ ((nat_mul_spec hx.2 hs (by omega) (by omega)).mono λv V1 l1 ⟨r,hv,hr⟩=>⟨r,hv,?_⟩)
 refine(num_wholeOf_spec x.neg hr).mono λv V2 _ ⟨w,hv,hw⟩=>⟨w,hv,w,rfl,?_⟩
 have e:(if x.neg=true then -((a.natAbs*n:Nat):Int)else((a.natAbs*n:Nat):Int))=a*n:=by
  conv=>rhs; rw[hx.val]
  rw[Int.natCast_mul]; split
  . rw[Int.neg_mul]
  . rfl
 rw[e]at hw; exact hw
theorem whole_cmp_spec{V:View}{x y:WhV}{a b:Int}(hx:IntAt V x a)(hy:IntAt V y b)(ha:wn a.natAbs<=2^43)(hb:wn b.natAbs<=2^43) :
 CallV Try.prog n_whole_cmp #[x.val,y.val] V λv _=>v = .int .i64 (cmpZ a b):=by
 refine whole_cmp_vc x y V _ ((whole_minus_spec hy).mono λv V1 l1 ⟨r,hv,hr⟩=>⟨r,hv,?_⟩)
 refine(whole_plus_spec (hx.le l1) hr ha (by rw[Int.natAbs_neg]; exact hb)).mono λv V2 l2 ⟨w,hv,hw⟩=>⟨w,hv,λh => ?_,λh => ?_⟩
 . have:a + -b<0:=by have:=hw.1; rw[h]at this; simpa using this
   rw[cmpZ_lt (by omega)]
 . have h1:¬a + -b<0:=by have:=hw.1; rw[h]at this; simpa using this
   have h2:=hw.2.len_zero
   by_cases e:a=b
   . have:w.mag.len=0:=h2.2 (by omega)
     rw[cmpZ_eq e,this]; rfl
   . have:w.mag.len≠0:=λh=>by have:=h2.1 h; omega
     rw[cmpZ_gt (by omega)]
     congr 1; split<;>omega
theorem num_over_spec{V:View}{x y:WhV}{s:Sl}{z:Cq}{a b:Int}{d:Nat}(hx:IntAt V x a)(hy:IntAt V y b)(hs:NatAt V s d)(hz:Rep z a b d)(ha:wn a.natAbs<=2^43)(hb:wn b.natAbs<=2^43)(hd:wn d<=2^43) :
 CallV Try.prog n_num_over #[x.val,y.val,s.v] V λv V'=>∃r:NumV,v=r.val/\NumAt V' r z:=by
 obtain⟨e1,e2,e3⟩:=hz.eqs
 have hp:=gcd3_pos a b hz.pos
 have d1:=gcd3_dvd1 a b d
 have d2:=gcd3_dvd2 a b d
 have d3:=gcd3_dvd3 a b d
 refine num_over_vc x y s V _ ((nat_gcd_spec hx.2 hy.2 ha hb).mono λv V1 l1 ⟨r1,hv,h1⟩=>⟨r1,hv,?_⟩)
 have hw1:wn (Nat.gcd a.natAbs b.natAbs)<=2^43:=by
  rcases Nat.eq_zero_or_pos a.natAbs with h|h
  . rw[h,Nat.gcd_zero_left]; exact hb
  . exact Nat.le_trans (wn_mono (Nat.le_of_dvd h (Nat.gcd_dvd_left _ _))) ha
 refine(nat_gcd_spec h1 (hs.le l1) hw1 hd).mono λv V2 l2 ⟨r2,hv,h2⟩=>⟨r2,hv,?_⟩
 have hg:Nat.gcd (Nat.gcd a.natAbs b.natAbs) d=gcd3 a b d:=rfl
 rw[hg]at h2
 refine(nat_one_spec h2).mono λv V3 l3 hv=>⟨_,hv,λhn => ?_,λhn => ?_⟩
 . have l13:=View.le_trans l1 (View.le_trans l2 l3)
   refine(nat_div_spec (hx.2.le l13) (h2.le l3) ha (by omega)).mono λv V4 l4 ⟨q1,m1,hv,hq1,_⟩=>⟨q1,m1,hv,?_⟩
   refine(nat_div_spec (hy.2.le (View.le_trans l13 l4)) (h2.le (View.le_trans l3 l4)) hb (by omega)).mono λv V5 l5 ⟨q2,m2,hv,hq2,_⟩=>⟨q2,m2,hv,?_⟩
   have l45:=View.le_trans l4 l5
   refine(nat_div_spec (hs.le (View.le_trans l13 l45)) (h2.le (View.le_trans l3 l45)) hd (by omega)).mono λv V6 l6 ⟨q3,m3,hv,hq3,_⟩=>⟨q3,m3,hv,?_⟩
   have f1:IntAt V6 (WhV.mk x.neg q1) z.A:=⟨by rw[e1,div_lt_zero d1 hp]; exact hx.1,by rw[e1,natAbs_div d1]; exact hq1.le (View.le_trans l5 l6)⟩
   have f2:IntAt V6 (WhV.mk y.neg q2) z.B:=⟨by rw[e2,div_lt_zero d2 hp]; exact hy.1,by rw[e2,natAbs_div d2]; exact hq2.le l6⟩
   refine(nat_one_spec hq3).mono λv V7 l7 hv=>⟨_,hv,λh=>⟨_,rfl,f1.le l7,f2.le l7,?_⟩,λh=>⟨_,rfl,f1.le l7,f2.le l7,?_⟩⟩
   . simp only[decide_eq_true_eq]at h
     rw[e3,if_pos h]; exact NatAt.zero V7
   . simp only[decide_eq_false_iff_not]at h
     rw[e3,if_neg h]; exact hq3.le l7
 . simp only[Bool.not_eq_false',decide_eq_true_eq]at hn
   rw[hn]at e1 e2 e3
   simp only[Int.natCast_one,Int.ediv_one]at e1 e2
   rw[Nat.div_one]at e3
   have l13:=View.le_trans l1 (View.le_trans l2 l3)
   refine(nat_one_spec (hs.le l13)).mono λv V7 l7 hv=>⟨_,hv,λh=>⟨_,rfl,?_,?_,?_⟩,λh=>⟨_,rfl,?_,?_,?_⟩⟩
   . rw[e1]; exact hx.le (View.le_trans l13 l7)
   . rw[e2]; exact hy.le (View.le_trans l13 l7)
   . simp only[decide_eq_true_eq]at h
     rw[e3,if_pos h]; exact NatAt.zero V7
   . rw[e1]; exact hx.le (View.le_trans l13 l7)
   . rw[e2]; exact hy.le (View.le_trans l13 l7)
   . simp only[decide_eq_false_iff_not]at h
     rw[e3,if_neg h]; exact hs.le (View.le_trans l13 l7)
theorem Num_den_spec{V:View}{x:NumV}{z:Cq}(h:NumAt V x z):CallV Try.prog n_Num_den #[x.val] V λv V'=>∃r:Sl,v=r.v/\NatAt V' r z.D:=by
 have hu:=h.under
 have hl:=hu.len_zero
 have hD:=z.D_pos
 refine Num_den_vc x V _ ⟨λh0 => ?_,λh0 => ?_⟩
 . have h0:x.under.len=0:=by have:(x.under.len:Int)=0:=(by simpa using h0); omega
   intro b V1 l1 _ hb
   have hz:=hl.1 h0
   have h1:z.D=1:=by split at hz<;>omega
   refine⟨_,rfl,?_⟩
   rw[h1]
   have:dig 1=[1]:=by rw[dig_pos (by omega)]; simp[dig_zero]
   unfold NatAt; rw[this]
   exact Words.of_block (by rw[hb]; rfl) rfl (Nat.le_refl _) (by intro d hd; simp at hd; omega)
 . have h0:x.under.len≠0:=by have:¬(x.under.len:Int)=0:=(by simpa using h0); omega
   refine⟨_,rfl,?_⟩
   have hz:¬(if z.D=1 then 0 else z.D)=0:=λe=>h0 (hl.2 e)
   split at hz
   . omega
   . rename_i h1; rw[if_neg h1]at hu; exact hu
theorem num_Int_spec{V:View}{n:Int}(h0 : -9223372036854775808<=n)(h1:n<=9223372036854775807) :
 CallV Try.prog n_num_Int #[.int .i64 n] V λv V'=>∃r:NumV,v=r.val/\NumAt V' r ⟨(n:Rat),0⟩:=by
 obtain⟨e1,e2,e3⟩:=Cq.ofInt_eqs n
 refine num_Int_vc n V _ ((num_of64_spec h0 h1).mono λv V1 _ ⟨r,hv,hr⟩=>⟨r,hv,_,rfl,by rw[e1]; exact hr,by rw[e2]; exact IntAt.zero _,by rw[e3]; exact NatAt.zero _⟩)
theorem wn64{n:Nat}(h:n<=18446744073709551615):wn n<=2^43:=by
 have:wn n<=2:=wn_le_of_lt (by omega)
 omega
theorem num_New_spec{V:View}{p q d:Int}(p0 : -9223372036854775808<=p)(p1:p<=9223372036854775807)(q0 : -9223372036854775808<=q)(q1:q<=9223372036854775807)(d0 : -9223372036854775808<=d)(d1:d<=9223372036854775807)(hd:d≠0) :
 CallV Try.prog n_num_New #[.int .i64 p,.int .i64 q,.int .i64 d] V λv V'=>∃r:NumV,v = .tuple #[r.val,.int .i64 0]/\NumAt V' r ⟨(p:Rat) / (d:Rat),(q:Rat) / (d:Rat)⟩:=by
 refine num_New_vc p q d V _ ⟨λh => ?_,λ_ => ?_⟩
 . exact absurd (by simpa using h) hd
 refine(num_of64_spec p0 p1).mono λv V1 l1 ⟨a,hv,ha⟩=>⟨a,hv,?_⟩
 refine(num_of64_spec q0 q1).mono λv V2 l2 ⟨b,hv,hb⟩=>⟨b,hv,?_⟩
 refine(num_of64_spec d0 d1).mono λv V3 l3 ⟨c,hv,hc⟩=>⟨c,hv,λhn => ?_,λhn => ?_⟩
 . have hneg:d<0:=by have:=hc.1; rw[hn]at this; simpa using this.symm
   refine(whole_minus_spec (ha.le (View.le_trans l2 l3))).mono λv V4 l4 ⟨a',hv,ha'⟩=>⟨a',hv,?_⟩
   refine(whole_minus_spec (hb.le (View.le_trans l3 l4))).mono λv V5 l5 ⟨b',hv,hb'⟩=>⟨b',hv,?_⟩
   refine(num_over_spec (ha'.le l5) hb' (hc.2.le (View.le_trans l4 l5)) ?_ (wn64 (by omega)) (wn64 (by omega)) (wn64 (by omega))).mono λv V6 l6 ⟨r,hv,hr⟩=>⟨r,hv,r,rfl,hr⟩
   have e:((d.natAbs:Nat):Rat) = -(d:Rat):=by
    have:(d.natAbs:Int) = -d:=by omega
    rw[<-Rat.intCast_natCast,this]; push_cast; rfl
   refine⟨by omega,?_,?_⟩<;>(simp only[e]; push_cast; rw[Rat.div_def,Rat.div_def]; grind)
 . have hpos:¬d<0:=by have:=hc.1; rw[hn]at this; simpa using this.symm
   refine(num_over_spec (ha.le (View.le_trans l2 l3)) (hb.le l3) hc.2 ?_ (wn64 (by omega)) (wn64 (by omega)) (wn64 (by omega))).mono λv V6 l6 ⟨r,hv,hr⟩=>⟨r,hv,r,rfl,hr⟩
   have e:((d.natAbs:Nat):Rat)=(d:Rat):=by
    have:(d.natAbs:Int)=d:=by omega
    rw[<-Rat.intCast_natCast,this]
   refine⟨by omega,?_,?_⟩<;>simp only[e]
theorem Cq.wA{z:Cq}(h:z.sz<=2^40):wn z.A.natAbs<=2^35:=wn_bl (by have:=z.szA; omega)
theorem Cq.wB{z:Cq}(h:z.sz<=2^40):wn z.B.natAbs<=2^35:=wn_bl (by have:=z.szB; omega)
theorem Cq.wD{z:Cq}(h:z.sz<=2^40):wn z.D<=2^35:=wn_bl (by have:=z.szD; omega)
theorem wn_muli{a b:Int}{k:Nat}(ha:wn a.natAbs<=k)(hb:wn b.natAbs<=k):wn (a*b).natAbs<=2*k:=by
 rw[Int.natAbs_mul]; have:=wn_mul_le a.natAbs b.natAbs; omega
theorem wn_addi{a b:Int}{k:Nat}(ha:wn a.natAbs<=k)(hb:wn b.natAbs<=k):wn (a+b).natAbs<=k+1:=by
 have:=wn_mono (Int.natAbs_add_le a b); have:=wn_add_le a.natAbs b.natAbs; omega
theorem wn_negi{a:Int}{k:Nat}(ha:wn a.natAbs<=k):wn (-a).natAbs<=k:=by rw[Int.natAbs_neg]; exact ha
theorem Num_Add_spec{V:View}{x y:NumV}{z w:Cq}(hx:NumAt V x z)(hy:NumAt V y w)(hz:z.sz<=2^40)(hw:w.sz<=2^40) :
 CallV Try.prog n_Num_Add #[x.val,y.val] V λv V'=>∃r:NumV,v=r.val/\NumAt V' r (z+w):=by
 have zA:=Cq.wA hz; have zB:=Cq.wB hz; have zD:=Cq.wD hz
 have wA:=Cq.wA hw; have wB:=Cq.wB hw; have wD:=Cq.wD hw
 have zD':wn (z.D:Int).natAbs<=2^35:=zD
 have wD':wn (w.D:Int).natAbs<=2^35:=wD
 have s1:=wn_muli zA wD'; have s2:=wn_muli wA zD'; have s3:=wn_muli zB wD'; have s4:=wn_muli wB zD'
 have s5:=wn_addi s1 s2; have s6:=wn_addi s3 s4
 have s7:=wn_mul_le z.D w.D
 refine Num_Add_vc x y V _ ((Num_den_spec hx).mono λv V1 l1 ⟨r1,hv,h1⟩=>⟨r1,hv,?_⟩)
 replace hx:=hx.le l1; replace hy:=hy.le l1
 refine(Num_den_spec hy).mono λv V2 l2 ⟨r2,hv,h2⟩=>⟨r2,hv,?_⟩
 replace hx:=hx.le l2; replace hy:=hy.le l2; replace h1:=h1.le l2
 refine(whole_scaled_spec hx.re h2 (by omega) (by omega)).mono λv V3 l3 ⟨r3,hv,h3⟩=>⟨r3,hv,?_⟩
 replace hx:=hx.le l3; replace hy:=hy.le l3; replace h1:=h1.le l3; replace h2:=h2.le l3
 refine(whole_scaled_spec hy.re h1 (by omega) (by omega)).mono λv V4 l4 ⟨r4,hv,h4⟩=>⟨r4,hv,?_⟩
 replace hx:=hx.le l4; replace hy:=hy.le l4; replace h1:=h1.le l4; replace h2:=h2.le l4; replace h3:=h3.le l4
 refine(whole_plus_spec h3 h4 (by omega) (by omega)).mono λv V5 l5 ⟨r5,hv,h5⟩=>⟨r5,hv,?_⟩
 replace hx:=hx.le l5; replace hy:=hy.le l5; replace h1:=h1.le l5; replace h2:=h2.le l5
 refine(whole_scaled_spec hx.im h2 (by omega) (by omega)).mono λv V6 l6 ⟨r6,hv,h6⟩=>⟨r6,hv,?_⟩
 replace hy:=hy.le l6; replace h1:=h1.le l6; replace h2:=h2.le l6; replace h5:=h5.le l6
 refine(whole_scaled_spec hy.im h1 (by omega) (by omega)).mono λv V7 l7 ⟨r7,hv,h7⟩=>⟨r7,hv,?_⟩
 replace h1:=h1.le l7; replace h2:=h2.le l7; replace h5:=h5.le l7; replace h6:=h6.le l7
 refine(whole_plus_spec h6 h7 (by omega) (by omega)).mono λv V8 l8 ⟨r8,hv,h8⟩=>⟨r8,hv,?_⟩
 replace h1:=h1.le l8; replace h2:=h2.le l8; replace h5:=h5.le l8
 refine(nat_mul_spec h1 h2 (by omega) (by omega)).mono λv V9 l9 ⟨r9,hv,h9⟩=>⟨r9,hv,?_⟩
 exact(num_over_spec (h5.le l9) (h8.le l9) h9 (z.canon.rep.add w.canon.rep) (by omega) (by omega) (by omega)).mono λv V10 _ ⟨r,hv,hr⟩=>⟨r,hv,r,rfl,hr⟩
theorem Num_Neg_spec{V:View}{x:NumV}{z:Cq}(hx:NumAt V x z):CallV Try.prog n_Num_Neg #[x.val] V λv V'=>∃r:NumV,v=r.val/\NumAt V' r (-z):=by
 obtain⟨e1,e2,e3⟩:=z.neg_eqs
 refine Num_Neg_vc x V _ ((whole_minus_spec hx.re).mono λv V1 l1 ⟨r1,hv,h1⟩=>⟨r1,hv,?_⟩)
 exact(whole_minus_spec (hx.im.le l1)).mono λv V2 l2 ⟨r2,hv,h2⟩=>⟨r2,hv,_,rfl,by rw[e1]; exact h1.le l2,by rw[e2]; exact h2,by rw[e3]; exact hx.under.le (View.le_trans l1 l2)⟩
theorem Num_Conj_spec{V:View}{x:NumV}{z:Cq}(hx:NumAt V x z):CallV Try.prog n_Num_Conj #[x.val] V λv V'=>∃r:NumV,v=r.val/\NumAt V' r z.conj:=by
 obtain⟨e1,e2,e3⟩:=z.conj_eqs
 exact Num_Conj_vc x V _ ((whole_minus_spec hx.im).mono λv V1 l1 ⟨r1,hv,h1⟩=>⟨r1,hv,_,rfl,by rw[e1]; exact hx.re.le l1,by rw[e2]; exact h1,by rw[e3]; exact hx.under.le l1⟩)
theorem Num_Sub_spec{V:View}{x y:NumV}{z w:Cq}(hx:NumAt V x z)(hy:NumAt V y w)(hz:z.sz<=2^40)(hw:w.sz<=2^40) :
 CallV Try.prog n_Num_Sub #[x.val,y.val] V λv V'=>∃r:NumV,v=r.val/\NumAt V' r (z-w):=by
 refine Num_Sub_vc x y V _ ((Num_Neg_spec hy).mono λv V1 l1 ⟨r1,hv,h1⟩=>⟨r1,hv,?_⟩)
 rw[Cq.sub_eq]
 exact(Num_Add_spec (hx.le l1) h1 hz (by rw[Cq.sz_neg]; exact hw)).mono λv V2 _ ⟨r,hv,hr⟩=>⟨r,hv,r,rfl,hr⟩
theorem Num_Mul_spec{V:View}{x y:NumV}{z w:Cq}(hx:NumAt V x z)(hy:NumAt V y w)(hz:z.sz<=2^40)(hw:w.sz<=2^40) :
 CallV Try.prog n_Num_Mul #[x.val,y.val] V λv V'=>∃r:NumV,v=r.val/\NumAt V' r (z*w):=by
 have zA:=Cq.wA hz; have zB:=Cq.wB hz; have zD:=Cq.wD hz
 have wA:=Cq.wA hw; have wB:=Cq.wB hw; have wD:=Cq.wD hw
 have s1:=wn_muli zA wA; have s2:=wn_muli zB wB; have s2':=wn_negi s2; have s3:=wn_muli zA wB; have s4:=wn_muli zB wA
 have s5:=wn_addi s1 s2'; have s6:=wn_addi s3 s4
 have s7:=wn_mul_le z.D w.D
 refine Num_Mul_vc x y V _ ((whole_times_spec hx.re hy.re (by omega) (by omega)).mono λv V1 l1 ⟨r1,hv,h1⟩=>⟨r1,hv,?_⟩)
 replace hx:=hx.le l1; replace hy:=hy.le l1
 refine(whole_times_spec hx.im hy.im (by omega) (by omega)).mono λv V2 l2 ⟨r2,hv,h2⟩=>⟨r2,hv,?_⟩
 replace hx:=hx.le l2; replace hy:=hy.le l2; replace h1:=h1.le l2
 refine(whole_minus_spec h2).mono λv V3 l3 ⟨r3,hv,h3⟩=>⟨r3,hv,?_⟩
 replace hx:=hx.le l3; replace hy:=hy.le l3; replace h1:=h1.le l3
 refine(whole_plus_spec h1 h3 (by omega) (by omega)).mono λv V4 l4 ⟨r4,hv,h4⟩=>⟨r4,hv,?_⟩
 replace hx:=hx.le l4; replace hy:=hy.le l4
 refine(whole_times_spec hx.re hy.im (by omega) (by omega)).mono λv V5 l5 ⟨r5,hv,h5⟩=>⟨r5,hv,?_⟩
 replace hx:=hx.le l5; replace hy:=hy.le l5; replace h4:=h4.le l5
 refine(whole_times_spec hx.im hy.re (by omega) (by omega)).mono λv V6 l6 ⟨r6,hv,h6⟩=>⟨r6,hv,?_⟩
 replace hx:=hx.le l6; replace hy:=hy.le l6; replace h4:=h4.le l6; replace h5:=h5.le l6
 refine(whole_plus_spec h5 h6 (by omega) (by omega)).mono λv V7 l7 ⟨r7,hv,h7⟩=>⟨r7,hv,?_⟩
 replace hx:=hx.le l7; replace hy:=hy.le l7; replace h4:=h4.le l7
 refine(Num_den_spec hx).mono λv V8 l8 ⟨r8,hv,h8⟩=>⟨r8,hv,?_⟩
 replace hy:=hy.le l8; replace h4:=h4.le l8; replace h7:=h7.le l8
 refine(Num_den_spec hy).mono λv V9 l9 ⟨r9,hv,h9⟩=>⟨r9,hv,?_⟩
 replace h4:=h4.le l9; replace h7:=h7.le l9; replace h8:=h8.le l9
 refine(nat_mul_spec h8 h9 (by omega) (by omega)).mono λv V10 l10 ⟨r10,hv,h10⟩=>⟨r10,hv,?_⟩
 refine(num_over_spec (h4.le l10) (h7.le l10) h10 ?_ (by omega) (by omega) (by omega)).mono λv V11 _ ⟨r,hv,hr⟩=>⟨r,hv,r,rfl,hr⟩
 rw[<-Int.sub_eq_add_neg]; exact z.canon.rep.mul w.canon.rep
theorem Num_Same_spec{V:View}{x y:NumV}{z w:Cq}(hx:NumAt V x z)(hy:NumAt V y w)(hz:z.sz<=2^40)(hw:w.sz<=2^40) :
 CallV Try.prog n_Num_Same #[x.val,y.val] V λv _=>v = .bool (decide (z=w)):=by
 have zA:=Cq.wA hz; have zB:=Cq.wB hz; have zD:=Cq.wD hz
 have wA:=Cq.wA hw; have wB:=Cq.wB hw; have wD:=Cq.wD hw
 refine Num_Same_vc x y V _ ((whole_cmp_spec hx.re hy.re (by omega) (by omega)).mono λv V1 l1 hv=>⟨_,hv,λh1 => ?_,λh1=>⟨(λh=>by cases h),λ_ => ?_⟩⟩)
 . have h1:z.A=w.A:=cmpZ_zero.1 (by simpa using h1)
   refine(whole_cmp_spec (hx.im.le l1) (hy.im.le l1) (by omega) (by omega)).mono λv V2 l2 hv=>⟨_,hv,λh2 => ?_,λh2 => ?_⟩
   . have h2:z.B=w.B:=cmpZ_zero.1 (by simpa using h2)
     refine(nat_cmp_spec (hx.under.le (View.le_trans l1 l2)) (hy.under.le (View.le_trans l1 l2)) ?_).mono λv V3 l3 hv=>⟨_,hv,?_⟩
     . split
       . rw[wn_zero]; omega
       . omega
     . have hD1:=z.D_pos
       have hD2:=w.D_pos
       congr 1
       by_cases e:z.D=w.D
       . have:z=w:=Cq.eq_of h1 h2 e
         subst this; simp
       . have:z≠w:=by rintro rfl; exact e rfl
         simp only[this,decide_false]
         have h3:(if z.D=1 then 0 else z.D)≠(if w.D=1 then 0 else w.D):=by split<;>split<;>omega
         rw[if_neg h3]
         by_cases h:(if z.D=1 then 0 else z.D)<(if w.D=1 then 0 else w.D)
         . rw[if_pos h]; rfl
         . rw[if_neg h]; rfl
   . have h2:¬z.B=w.B:=λe=>by rw[cmpZ_zero.2 e]at h2; simp at h2
     have:z≠w:=by rintro rfl; exact h2 rfl
     simp[this]
 . have h1:¬z.A=w.A:=λe=>by rw[cmpZ_zero.2 e]at h1; simp at h1
   have:z≠w:=by rintro rfl; exact h1 rfl
   simp[this]
theorem Num_Real_spec{V:View}{x:NumV}{z:Cq}(hx:NumAt V x z):CallV Try.prog n_Num_Real #[x.val] V λv _=>v = .bool (decide (z.im=0)):=by
 refine Num_Real_vc x V _ ?_
 have h1:=hx.im.2.len_zero
 have h2:=Cq.B_zero (z:=z)
 congr 1
 by_cases e:z.im=0
 . have:x.im.mag.len=0:=h1.2 (by rw[h2.2 e]; rfl)
   simp[e,this]
 . have:x.im.mag.len≠0:=λh=>e (h2.1 (by have:=h1.1 h; omega))
   simp only[e,decide_false,beq_eq_false_iff_ne,ne_eq]; omega
theorem Num_Of_spec{V:View}{x y:NumV}{w:Cq}(hy:NumAt V y w):CallV Try.prog n_Num_Of #[x.val,y.val] V λv V'=>∃r:NumV,v=r.val/\NumAt V' r w :=
 Num_Of_vc x y V _ ⟨y,rfl,hy⟩
def lenB(n:Nat):Bool:=[1,2,4,8,16,32,64].contains n
theorem lenB_eq:∀n∈List.range 65,1<=n->(IntKind.i64.wrap (BitVec.toNat ((BitVec.ofInt IntKind.i64.bits (n:Int)) &&& (BitVec.ofInt IntKind.i64.bits (IntKind.i64.wrap ((n:Int)-1)))))==0)=lenB n:=by
 decide +kernel
theorem lenB_le{n:Nat}(h:lenB n=true):1<=n/\n<=64:=by
 simp[lenB]at h; omega
theorem transform_length_spec{V:View}{n:Int}(h0:0<=n):CallV Try.prog n_transform_length #[.int .i64 n] V λv _=>v = .bool (lenB n.toNat):=by
 refine transform_length_vc n V _ ⟨λh1=>⟨λh2 => ?_,λh2 => ?_⟩,λh1=>⟨λh=>absurd h (by simp),λ_ => ?_⟩⟩
 . simp only[decide_eq_true_eq]at h1 h2
   have:=lenB_eq n.toNat (by simp; omega) (by omega)
   rw[Int.toNat_of_nonneg h0]at this
   rw[this]
 . simp only[decide_eq_false_iff_not]at h2
   congr 1; symm
   rw[Bool.eq_false_iff]; intro e
   have:=lenB_le e; omega
 . simp only[decide_eq_false_iff_not]at h1
   congr 1; symm
   rw[Bool.eq_false_iff]; intro e
   have:=lenB_le e; omega
theorem transform_fits_spec{V:View}(p q:Sl):CallV Try.prog n_transform_fits_num_Num_ #[p.v,q.v] V λv _=>v = .bool (lenB q.len&&decide (p.len=q.len)):=by
 refine transform_fits_num_Num__vc p q V _ ((transform_length_spec (Int.natCast_nonneg _)).mono λv V1 l1 hv=>⟨_,hv,λh => ?_,λh => ?_⟩)
 . rw[Int.toNat_natCast]at h
   rw[h,Bool.true_and]; congr 1
   rw[Bool.eq_iff_iff]; simp; omega
 . rw[Int.toNat_natCast]at h
   rw[h,Bool.false_and]
def ratQ(r:RatV):Cq:=if r.den=0 then⟨(r.re:Rat),(r.im:Rat)⟩else⟨(r.re:Rat) / (r.den:Rat),(r.im:Rat) / (r.den:Rat)⟩
def ratI(r:RatV):Prop:=(-9223372036854775808<=r.re/\r.re<=9223372036854775807)/\(-9223372036854775808<=r.im/\r.im<=9223372036854775807)/\(-9223372036854775808<=r.den/\r.den<=9223372036854775807)
def ratC(_:View)(x:List Value)(r:RatV):Prop:=x=r.val.cells.toList
def RatsAt(V:View)(s:Sl)(rs:List RatV):Prop:=ListAt 3 ratC V s rs
theorem RatsAt.le{V V':View}(hle:V.le V'){s:Sl}{rs:List RatV}(h:RatsAt V s rs):RatsAt V' s rs:=ListAt.le (P:=ratC) (V:=V) (V':=V') (λ_ _ h=>h) hle h
theorem law1_Of_spec{V:View}{r:RatV}(h:ratI r):CallV Try.prog n_law1_Of #[r.val] V λv V'=>∃x:NumV,v=x.val/\NumAt V' x (ratQ r):=by
 obtain⟨⟨a1,a2⟩,⟨b1,b2⟩,⟨c1,c2⟩⟩:=h
 refine law1_Of_vc r V _ ⟨λh0 => ?_,λh0 => ?_⟩
 . have h0:r.den=0:=by simpa using h0
   refine(num_New_spec a1 a2 b1 b2 (by omega) (by omega) (by omega)).mono λv V1 _ ⟨x,hv,hx⟩=>⟨x,0,hv,x,rfl,?_⟩
   have e:ratQ r=⟨(r.re:Rat) / ((1:Int):Rat),(r.im:Rat) / ((1:Int):Rat)⟩:=by
    unfold ratQ; rw[if_pos h0]; simp only[Rat.div_def,Cq.mk.injEq]; constructor<;>grind
   rw[e]; exact hx
 . have h0:r.den≠0:=by simpa using h0
   refine(num_New_spec a1 a2 b1 b2 c1 c2 h0).mono λv V1 _ ⟨x,hv,hx⟩=>⟨x,0,hv,x,rfl,?_⟩
   unfold ratQ; rw[if_neg h0]; exact hx
theorem law1_List_spec{V:View}{s:Sl}{rs:List RatV}(h:RatsAt V s rs)(hi:∀r∈rs,ratI r)(hn:rs.length<=2^32) :
 CallV Try.prog n_law1_List #[s.v] V λv V'=>∃r:Sl,v=r.v/\NumsAt V' r (rs.map ratQ):=by
 have hl:=h.len
 let f:Nat->Cq:=λi=>nth (rs.map ratQ) i
 refine law1_List_vc s V _ (λ_ x V'=>0<=x.t11/\x.t11<=s.len/\NumsIn V' x.o8 (filled s.len x.t11.toNat f)) (λ_ x _=>s.len-x.t11.toNat)
  ⟨⟨by omega,by omega,by omega,by omega⟩,⟨by simp,by simp,?_⟩,?_⟩
 . simp only[Int.toNat_zero,filled_zero,Int.toNat_natCast]; exact NumsIn.zeros _ _
 rintro⟨t,o⟩ V1 l1 ⟨h0,h1,ho⟩
 simp only at h0 h1 ho ⊢
 refine⟨λhlt => ?_,λhge => ?_⟩
 . simp only[decide_eq_true_eq]at hlt
   have hk:t.toNat<rs.length:=by omega
   obtain⟨hb,x,hx,_,hh,hs⟩:=(h.le l1).get h0 (z:=rs[t.toNat]) (by simp[hk])
   refine⟨hb,rs[t.toNat],hx▸hh,hs,(law1_Of_spec (hi _ (List.getElem_mem _))).mono λv V2 l2 ⟨r,hv,hr⟩=>⟨r,hv,⟨h0,by simpa using hlt⟩,?_,?_⟩⟩
   . exact Cells.room ho (by rw[filled_length (by omega)]; omega)
   . have e:IntKind.i64.wrap (t+1)=t+1:=i64w (by omega) (by omega)
     have e2:(t+1).toNat=t.toNat+1:=by omega
     have ef:f t.toNat=ratQ rs[t.toNat]:=by simp[f,nth,List.getD,hk]
     refine⟨⟨by rw[e]; omega,by rw[e]; omega,?_⟩,by simp only[e,e2]; omega⟩
     simp only[e,e2]
     rw[<-filled_set (by omega),ef]
     exact(ho.le l2).set (by rw[filled_length (by omega)]; omega) hr
 . simp only[decide_eq_false_iff_not]at hge
   intro b V3 l3 hb
   have e:t.toNat=s.len:=by omega
   rw[e,filled_all]at ho
   have e2:(List.range s.len).map f=rs.map ratQ:=by
    have:=list_of_nth (rs.map ratQ)
    rw[List.length_map]at this
    rw[hl]; exact this
   rw[e2]at ho
   exact⟨_,rfl,ListAt.of_made hb (ho.le l3) (by simp[hl])⟩
theorem oneCell_num(r:NumV):∀v∈[Value.bool r.re.neg,r.re.mag.v,Value.bool r.im.neg,r.im.mag.v,r.under.v],Value.oneCell' v=true:=by
 intro v hv
 simp only[List.mem_cons,List.not_mem_nil,or_false]at hv
 rcases hv with rfl|rfl|rfl|rfl|rfl<;>rfl
theorem has_block{V:View}{b:Nat}{l:List Value}(h:V b=some l.toArray):V.has (some (Addr.mk b 0 none)) l:=by
 intro j v hj
 rw[load_block h]; simpa using hj
theorem transform_every_spec{V:View}{s:Sl}{zs:List Cq}{a:Int}(h:NumsAt V s zs)(ha:0<=a)(ha1:a<=1)(hn:zs.length<=2^32)(hn1:1<=zs.length) :
 CallV Try.prog n_transform_every_num_Num_ #[s.v,.int .i64 a] V λv V'=>∃r:Sl,v=r.v/\NumsAt V' r (everyF zs a.toNat):=by
 have hl:=h.len
 refine transform_every_num_Num__vc s a V _ (λ_ x V'=>∃l,x.t6=a+2*x.t5l/\2*x.t5l+a.toNat<=zs.length+1/\LstOk 5 x.t5l x.t5c x.o5 l/\NumsIn V' l ((List.range x.t5l).map λk=>nth zs (a.toNat+2*k)))
  (λ_ x _=>zs.length+2-2*x.t5l) ⟨⟨[],by simp,by simp; omega,LstOk.nil,rfl⟩,?_⟩
 rintro⟨n,c,t,o⟩ V1 l1 ⟨l,ht,hm,hlo,hin⟩
 simp only at ht hm hlo hin ⊢
 refine⟨λhlt => ?_,λhge => ?_⟩
 . simp only[decide_eq_true_eq]at hlt
   obtain⟨hb,x,hx,hs,hnx⟩:=(h.le l1).get (t:=t) (by omega) (by omega)
   refine⟨hb,x,hx,hs,λb V2 l2 hf hV2 => ?_⟩
   refine⟨l,_,hlo,has_block (l:=[.bool x.re.neg,x.re.mag.v,.bool x.im.neg,x.im.mag.v,x.under.v]) hV2,rfl,oneCell_num x,?_,?_,λc1 l3 hl3 => ?_⟩
   . simp only[maxLen]; omega
   . omega
   . have e:IntKind.i64.wrap (t+2)=t+2:=i64w (by omega) (by omega)
     refine⟨⟨_,by rw[e]; simp; omega,by omega,hl3,?_⟩,by omega⟩
     rw[<-push_range]
     have e3:a.toNat+2*n=t.toNat:=by omega
     rw[e3]
     exact(hin.le l2).push (hnx.le l2)
 . simp only[decide_eq_false_iff_not]at hge
   intro b V3 l3 hb
   refine⟨_,rfl,?_⟩
   have e:n=(zs.length+1-a.toNat) / 2:=by omega
   unfold everyF
   rw[<-e]
   exact ListAt.of_lst hlo hb (hin.le l3) (by simp)
theorem transform_stage_owned:∀(m:Nat) {V:View} {p w:Sl} {zs ws:List Cq} (S T:Nat),m<=6->zs.length=2^m->ws.length=2^m->NumsAt V p zs->NumsAt V w ws ->
 (∀i,i<2^m->(nth zs i).sz<=S)->(∀i,i<2^m->(nth ws i).sz<=T)->2^m*(S+T+2)<=2^39 ->
 CallO Try.prog n_transform_stage_num_Num_ #[p.v,w.v] TN_num_Num V λn cap l rest V'=>n=(stageF m zs ws).length/\cap=n/\rest=[]/\NumsIn V' l (stageF m zs ws)
 | m,V,p,w,zs,ws,S,T,hm,hz,hw,hp,hq,hS,hT,hsz=>by
   have hpl:=hp.len
   have hwl:=hq.len
   have hpow:2^m<=64:=Nat.pow_le_pow_right (n:=2) (by omega) hm
   have hpos:0<2^m:=Nat.pow_pos (by omega)
   rw[stageF_length]
   refine transform_stage_num_Num__vc p w V _ (λc x V'=>∃m' zs' ws',m=m'+1/\zs'=stageF m' (everyF zs 0) (everyF ws 0)/\ws'=stageF m' (everyF zs 1) (everyF ws 0) /\
    NumsAt V' c.t8 zs'/\NumsAt V' c.t9 ws'/\0<=x.t36/\x.t36<=(2^m':Nat) /\
    NumsIn V' x.o15 (halves (2^m') x.t36.toNat (λi=>nth zs' i+nth ws' i*nth ws i) (λi=>nth zs' i-nth ws' i*nth ws i)))
    (λ_ x _=>2^m-x.t36.toNat) ⟨⟨by omega,by omega,by omega,by omega⟩,λh1 => ?_,λh1 => ?_⟩
   . have h1:p.len=1:=by have:(p.len:Int)=1:=(by simpa using h1); omega
     have hm0:m=0:=by
      rcases Nat.eq_zero_or_pos m with h|h
      . exact h
      . have:2^1<=2^m:=Nat.pow_le_pow_right (by omega) h
        omega
     subst hm0
     obtain⟨hb,x,hx,hs,hnx⟩:=hp.get (t:=0) (by omega) (by simp[hz])
     have hset:=(NumsIn.zeros V 1).set (i:=0) (by simp) hnx
     refine⟨hb,x,hx,hs,⟨by omega,by omega⟩,?_,?_,?_⟩
     . simp[h1]
     . refine⟨by simp[h1],?_⟩
       intro e
       have h5:=Cells.length hset
       simp only[h1]at e
       have h6:(0:Nat)=5:=(congrArg List.length e).symm.trans h5
       omega
     . refine⟨by simp[h1],rfl,rfl,?_⟩
       simp only[h1]
       exact hset
   . have h1:p.len≠1:=by intro e; simp[e]at h1
     obtain ⟨m', rfl⟩ : ∃ m', m = m' + 1 := ⟨m - 1, by rcases Nat.eq_zero_or_pos m with h | h; · subst h; simp at hz; omega
                                                       . omega⟩
     have hp2:2^(m'+1)=2*2^m':=by rw[Nat.pow_succ]; omega
     have hmul:2^(m'+1)*(S+T+2)=2*(2^m'*(S+T+2)):=by rw[hp2,Nat.mul_assoc]
     have bz:∀a,a<=1->∀i,i<2^m'->(nth (everyF zs a) i).sz<=S:=by
      intro a ha i hi; rw[everyF_nth (by omega)]; exact hS _ (by omega)
     have bw:∀i,i<2^m'->(nth (everyF ws 0) i).sz<=T:=by
      intro i hi; rw[everyF_nth (by omega)]; exact hT _ (by omega)
     refine(transform_every_spec hq (Int.le_refl 0) (by omega) (by omega) (by omega)).mono λv V1 l1 ⟨r1,hv,hr1⟩=>⟨r1,hv,?_⟩
     refine(transform_every_spec (hp.le l1) (Int.le_refl 0) (by omega) (by omega) (by omega)).mono λv V2 l2 ⟨r2,hv,hr2⟩=>⟨r2,hv,?_⟩
     have ne:∀zs ws,stageF m' zs ws≠[]:=by
      intro zs ws e
      have:=stageF_length m' zs ws
      rw[e]at this; simp at this
      have:0<2^m':=Nat.pow_pos (by omega)
      omega
     refine(CallO.nums (ne _ _) (transform_stage_owned m' S T (by omega) (by simp[everyF_length]; omega) (by simp[everyF_length]; omega) hr2 (hr1.le l2) (bz 0 (by omega)) bw (by omega))).mono λv V3 l3 ⟨r3,hv,hr3⟩=>⟨r3,hv,?_⟩
     refine(transform_every_spec (hp.le (View.le_trans l1 (View.le_trans l2 l3))) (a:=1) (by omega) (by omega) (by omega) (by omega)).mono λv V4 l4 ⟨r4,hv,hr4⟩=>⟨r4,hv,?_⟩
     refine(CallO.nums (ne _ _) (transform_stage_owned m' S T (by omega) (by simp[everyF_length]; omega) (by simp[everyF_length]; omega) hr4 (hr1.le (View.le_trans l2 (View.le_trans l3 l4))) (bz 1 (by omega)) bw (by omega))).mono λv V5 l5 ⟨r5,hv,hr5⟩=>⟨r5,hv,?_⟩
     have le5:View.le V V5:=View.le_trans l1 (View.le_trans l2 (View.le_trans l3 (View.le_trans l4 l5)))
     have hdiv:IntKind.i64.wrap (Int.tdiv (p.len:Int) 2)=((2^m':Nat):Int):=by
      have e:Int.tdiv (p.len:Int) 2=((2^m':Nat):Int):=by
       rw[Int.tdiv_eq_ediv_of_nonneg (by omega)]; omega
      rw[e]; exact i64w (by omega) (by omega)
     rw[hdiv]
     refine⟨⟨m',_,_,rfl,rfl,rfl,hr3.le (View.le_trans l4 l5),hr5,Int.le_refl 0,Int.natCast_nonneg _,?_⟩,?_⟩
     . simp only[Int.toNat_zero,halves_zero,Int.toNat_natCast,hpl,hz,hp2]
       exact NumsIn.zeros _ _
     rintro⟨t,o⟩ V6 l6 ⟨m2,zs',ws',em,rfl,rfl,h8,h9,h0,h1',hin⟩
     have em:m'=m2:=by omega
     subst em
     simp only at h8 h9 h0 h1' hin ⊢
     have lz:=stageF_length m' (everyF zs 0) (everyF ws 0)
     have lw:=stageF_length m' (everyF zs 1) (everyF ws 0)
     have l8:=h8.len
     have l9:=h9.len
     have lo:∀k a b,(halves (2^m') k a b).length=2*2^m':=by intro k a b; simp[halves]
     refine⟨λhlt => ?_,λhge => ?_⟩
     . simp only[decide_eq_true_eq]at hlt
       have hk:t.toNat<2^m':=by omega
       obtain⟨hb4,x4,hx4,hs4,hn4⟩:=h9.get h0 (by omega)
       obtain⟨hb5,x5,hx5,hs5,hn5⟩:=(hq.le (View.le_trans le5 l6)).get h0 (by omega)
       have sE:=stageF_sz m' (everyF zs 0) (everyF ws 0) S T (by simp[everyF_length]; omega) (by simp[everyF_length]; omega) (bz 0 (by omega)) bw t.toNat hk
       have sO:=stageF_sz m' (everyF zs 1) (everyF ws 0) S T (by simp[everyF_length]; omega) (by simp[everyF_length]; omega) (bz 1 (by omega)) bw t.toNat hk
       have sW:=hT t.toNat (by omega)
       have hm2:S+T+2<=2^m'*(S+T+2):=Nat.le_mul_of_pos_left _ (Nat.pow_pos (by omega))
       have sU:=Cq.sz_mul (nth (stageF m' (everyF zs 1) (everyF ws 0)) t.toNat) (nth ws t.toNat)
       refine⟨hb4,x4,hx4,hs4,hb5,x5,hx5,hs5,(Num_Mul_spec hn4 hn5 (by omega) (by omega)).mono λv V7 l7 ⟨r6,hv,hr6⟩=>⟨r6,hv,?_⟩⟩
       obtain⟨hb6,x6,hx6,hs6,hn6⟩:=(h8.le l7).get h0 (by omega)
       refine⟨hb6,x6,hx6,hs6,hb6,x6,hx6,hs6,(Num_Add_spec hn6 hr6 (by omega) (by omega)).mono λv V8 l8' ⟨r7,hv,hr7⟩=>⟨r7,hv,?_⟩⟩
       refine(Num_Sub_spec (hn6.le l8') (hr6.le l8') (by omega) (by omega)).mono λv V9 l9' ⟨r8,hv,hr8⟩=>⟨r8,hv,⟨h0,?_⟩,?_,?_⟩
       . omega
       . exact Cells.room hin (by rw[lo]; omega)
       have ek:IntKind.i64.wrap (t+((2^m':Nat):Int))=t+((2^m':Nat):Int):=i64w (by omega) (by omega)
       have ek2:Int.toNat (t+((2^m':Nat):Int))=t.toNat+2^m':=by omega
       have et:IntKind.i64.wrap (t+1)=t+1:=i64w (by omega) (by omega)
       have et2:(t+1).toNat=t.toNat+1:=by omega
       rw[ek,ek2]
       have in9:=hin.le (View.le_trans l7 (View.le_trans l8' l9'))
       have s1:=in9.set (i:=t.toNat) (by rw[lo]; omega) (hr7.le l9')
       have s2:=s1.set (i:=t.toNat+2^m') (by rw[List.length_set,lo]; omega) hr8
       refine⟨⟨by omega,by omega⟩,?_,⟨m',_,_,rfl,rfl,rfl,h8.le (View.le_trans l7 (View.le_trans l8' l9')),h9.le (View.le_trans l7 (View.le_trans l8' l9')),by rw[et]; omega,by rw[et]; omega,?_⟩,by simp only[et,et2]; omega⟩
       . exact Cells.room s1 (by rw[List.length_set,lo]; omega)
       . simp only[et,et2]
         rw[<-halves_set hk]
         exact s2
     . simp only[decide_eq_false_iff_not]at hge
       have e:t.toNat=2^m':=by omega
       rw[e]at hin
       have e2:halves (2^m') (2^m') (λi=>nth (stageF m' (everyF zs 0) (everyF ws 0)) i+nth (stageF m' (everyF zs 1) (everyF ws 0)) i*nth ws i)
        (λi=>nth (stageF m' (everyF zs 0) (everyF ws 0)) i-nth (stageF m' (everyF zs 1) (everyF ws 0)) i*nth ws i)=stageF (m'+1) zs ws:=by
        have h2:=list_of_nth (stageF (m'+1) zs ws)
        rw[stageF_length]at h2
        rw[<-h2]
        unfold halves
        rw[<-hp2]
        apply List.map_congr_left
        intro i hi
        have hi:i<2^(m'+1):=by simpa using hi
        rw[stageF,nth_map hi]
        split
        . rfl
        . rw[if_pos (by omega)]
       rw[e2]at hin
       refine⟨⟨by omega,?_⟩,by omega,by simp,by simp,hin⟩
       intro eo
       subst eo
       have:=Cells.length hin
       rw[stageF_length]at this
       simp at this; omega
end Go.Proofs.Ytblaagclfalaaaa
namespace Go.Proofs.Ytblaagclfalaaaa
open Go Go.Vc Go.Proofs Go.ChangeShapes Go.RowKit
structure RatTy (P:Program) (t:TypeId):Prop where
 fields:∃f0 f1 f2:Field,P.underlying t=some (.struct #[f0,f1,f2])/\(f0.offset=0/\f1.offset=1/\f2.offset=2) /\
  (P.underlying f0.type=some (.int .i64)/\P.underlying f1.type=some (.int .i64)/\P.underlying f2.type=some (.int .i64))/\(P.cellsOf f0.type=1/\P.cellsOf f1.type=1/\P.cellsOf f2.type=1)
 cells:P.cellsOf t=3
section
variable {H:Type} {enc:TypeId×Value->H} {P:Program} {w:World} {base:Nat} {spare:Nat->Bool} {held:Bool}
theorem trod_rat{t:TypeId}{fuel:Nat}{cs:List Value}{x:DataW H×List MemPlace}(ht:RatTy P t)(h:DataW.trod enc P w base spare held fuel t cs=some x):∃r:RatV,ratI r/\cs=r.val.cells.toList:=by
 obtain⟨f0,f1,f2,hR,⟨o0,o1,o2⟩,⟨i0,i1,i2⟩,c0,c1,c2⟩:=ht.fields
 obtain⟨xs,n,_,_,hl,hxs,hf⟩:=DataW.trod_struct hR h
 rw[ht.cells]at hl
 match cs,hl with
 | [a,b,c],_ =>
   have g0:=hf 0 f0 rfl
   have g1:=hf 1 f1 rfl
   have g2:=hf 2 f2 rfl
   rw[o0,c0]at g0
   rw[o1,c1]at g1
   rw[o2,c2]at g2
   have hs:xs.length=3:=hxs
   match xs,hs with
   | [y0, y1, y2], _ =>
     obtain⟨n0,e0,_,w0⟩:=DataW.trod_int i0 g0
     obtain⟨n1,e1,_,w1⟩:=DataW.trod_int i1 g1
     obtain⟨n2,e2,_,w2⟩:=DataW.trod_int i2 g2
     simp at e0 e1 e2
     subst e0; subst e1; subst e2
     exact⟨⟨n0,n1,n2⟩,⟨bounds_i64 w0,bounds_i64 w1,bounds_i64 w2⟩,rfl⟩
end
theorem CallV.fits{P:Program}{f:FuncId}{args:Array Value}{r:Value}{V:View}(h:CallV P f args V λv _=>v=r){w:World}(hw:V.In w) :
 Calls P f args w λe w'=>e = .returned r/\Below w.heap.size w w' :=
 (h w hw).mono λ_ _ ⟨_,_,he,_,_,_,hb,hr⟩=>⟨by rw[he,hr],hb⟩
theorem trodAll_below{H:Type}{enc:TypeId×Value->H}{P:Program}(hl:laidOutB P=true){W W':World}(hb:Below W.heap.size W W') :
 ∀ {ts:List TypeId} {vs:List Value} {ds:List (DataW H)} {ps:List MemPlace},(∀t∈ts,P.readableRec t=true/\t<P.types.size)->(∀p∈ps,p.block<W.heap.size) ->
 DataW.TrodAll enc P W 0 (λ_=>true) true ts vs ds ps->DataW.TrodAll enc P W' 0 (λb=>decide (b<W.heap.size)) true ts vs ds ps
 | [],[],[],_,_,_,h=>h
 | t::ts,v::vs,d::ds,ps,ht,hlt,⟨p,q,h1,h2,e⟩=>by
   subst e
   exact⟨p,q,Below.trod hl (ht t (by simp)).1 (ht t (by simp)).2 h1 hb (λx hx=>hlt x (by simp[hx])),
    trodAll_below hl hb (λt' ht'=>ht t' (by simp[ht'])) (λx hx=>hlt x (by simp[hx])) h2,rfl⟩
 | [],[],_::_,_,_,_,h=>h.elim
 | [],_::_,_,_,_,_,h=>h.elim
 | _::_,[],_,_,_,_,h=>h.elim
 | _::_,_::_,[],_,_,_,h=>h.elim
theorem post_of_read{H:Type}{enc:TypeId×Value->H}{P:Program}{f:Func}{s:ChangeSpec}{apart fresh handsOn:Bool}{W W':World}{args:Array Value}{v:Value}{ds:List (DataW H)}{before:List MemPlace}
 (hl:laidOutB P=true) (ht:∀t∈f.params.toList,P.readableRec t=true/\t<P.types.size)
 (hW:DataW.Whole enc P f.params.toList s.vars apart W args.toList ds [] before) (hA:DataW.TrodAll enc P W 0 (λ_=>true) true f.params.toList args.toList ds before)
 (hres:∀(b:Nat) (sp:Nat->Bool) (hd:Bool),DataW.TrodAll enc P W' b sp hd f.resultTypes.toList (v.resultList f.resultTypes.size) (s.fn H (ds++[])).results [])
 (hargs:(s.fn H (ds++[])).args=ds) (hvars:∀sp:Nat->Bool,DataW.TrodVars enc P W' sp s.vars (s.fn H (ds++[])).vars []) (hb:Below W.heap.size W W'):s.post enc P f apart fresh handsOn false W args v W':=by
 refine⟨ds,[],before,[],before,[],hW,hres _ _ _,?_,hvars _,World.keptBut_mono (λp hp=>⟨hp,.inr (.inl hp)⟩) (hb.frame (·∈before)),λh=>Bool.noConfusion h⟩
 rw[hargs]
 exact trodAll_below hl hb ht (λp hp=>hW.lt p hp) hA
def worldView(w:World):View:=λb=>match w.heap[b]? with|some (.cells cs _ _)=>some cs|_=>none
theorem worldView_in(w:World):(worldView w).In w:=by
 intro i cs hi
 unfold worldView at hi
 split at hi
 . rename_i cs' T fr hw
   simp at hi; subst hi
   exact⟨T,fr,hw⟩
 . simp at hi
theorem worldView_load{w:World}{p:Addr}{v:Value}(h:w.cell? p=some v):(worldView w).load (some p)=some v:=by
 unfold World.cell? at h
 unfold View.load worldView
 split at h
 . rename_i c T fr hw
   simp only[hw]
   split at h
   . simp at h
   . rename_i hs
     simp only[hs]
     simpa using h
 . simp at h
section
variable {H:Type} {enc:TypeId×Value->H} {P:Program} {w:World} {base:Nat} {spare:Nat->Bool} {held:Bool}
theorem trod_list{α:Type}{sz:Nat}{t e:TypeId}(ht:P.underlying t=some (.slice e))(hc:P.cellsOf e=sz)(ok:α->Prop)(E:View->List Value->α->Prop)
 (he:∀ {fuel:Nat} {cs:List Value} {x:DataW H×List MemPlace},DataW.trod enc P w base spare held fuel e cs=some x->∃z,ok z/\E (worldView w) cs z)
 {fuel:Nat} {cs:List Value} {x:DataW H×List MemPlace} (h:DataW.trod enc P w base spare held fuel t cs=some x) :
 ∃(s:Sl) (zs:List α),cs=[s.v]/\ListAt sz E (worldView w) s zs/\zs.length<=maxLen/\∀z∈zs,ok z:=by
 rcases Go.Deep.open_slice ht h with⟨h1,_⟩|⟨a,l0,c0,m,n,D,Pl,h1,_,hl,hm,hmm,_,hx⟩
 . subst h1
   exact⟨Sl.mk none 0 0,[],rfl,ListAt.nil,Nat.zero_le _,by intro r hr; simp at hr⟩
 . subst h1
   have hlm:l0<=m:=by rw[hmm]; split<;>omega
   have key:∀k,k<=l0->∃(rs:List α) (o:List Value),rs.length=k/\(∀r∈rs,ok r)/\Cells sz E (worldView w) o rs/\(worldView w).has (some a) o:=by
    intro k
    induction k with
    | zero=>intro _; exact⟨[],[],rfl,by intro r hr; simp at hr,rfl,by intro j v hj; simp at hj⟩
    | succ k ih =>
      intro hk
      obtain⟨rs,o,hrl,hri,hcs,ho⟩:=ih (by omega)
      obtain⟨cs',g1,g2⟩:=hx k (by omega)
      obtain⟨r,hr,er⟩:=he g2
      rw[hc]at g1
      obtain⟨_,hcl,hcell⟩:=World.cells?_some g1
      have hol:=hcs.length
      refine⟨rs++[r],o++cs',by simp[hrl],?_,hcs.append (Cells.one hcl er),?_⟩
      . intro x hx
        rcases List.mem_append.1 hx with h|h
        . exact hri x h
        . simp at h; subst h; exact hr
      . intro j v hj
        by_cases hjo:j<o.length
        . rw[List.getElem?_append_left hjo]at hj
          exact ho j v hj
        . rw[List.getElem?_append_right (by omega)]at hj
          have hj3:j-o.length<sz:=by
           rcases Nat.lt_or_ge (j-o.length) cs'.length with h|h
           . omega
           . rw[List.getElem?_eq_none h]at hj; simp at hj
          have hcj:=hcell (j-o.length) hj3
          rw[hj,addr_add2]at hcj
          have e:k*sz+(j-o.length)=j:=by rw[hol,hrl]; rw[hol,hrl]at hjo; omega
          rw[e]at hcj
          exact worldView_load hcj
   obtain⟨rs,o,hrl,hri,hcs,ho⟩:=key l0 (Nat.le_refl _)
   exact⟨Sl.mk (some a) l0 c0,rs,rfl,⟨hrl.symm,hl,λ_=>rfl,o,ho,hcs⟩,by omega,hri⟩
theorem one_of_cells{v x:Value}(h:v.cells.toList=[x])(hv:∃a l c,v = .slice a l c):v=x:=by
 obtain⟨a,l,c,rfl⟩:=hv
 simpa [Value.cells]using h
theorem open_ratsW{t e:TypeId}{v:Value}{d:DataW H}{ps:List MemPlace}(ht:P.underlying t=some (.slice e))(he:RatTy P e)(hv:∃a l c,v = .slice a l c)(h:DataW.Trod enc P w base spare held t v d ps) :
 ∃(s:Sl) (rs:List RatV),v=s.v/\RatsAt (worldView w) s rs/\rs.length<=maxLen/\∀r∈rs,ratI r:=by
 obtain⟨fuel,h⟩:=h
 obtain⟨s,zs,e1,h1,h2,h3⟩:=trod_list ht he.cells ratI ratC (λg=>trod_rat he g) h
 exact⟨s,zs,one_of_cells e1 hv,h1,h2,h3⟩
end
end Go.Proofs.Ytblaagclfalaaaa
namespace Go.Proofs.Ytblaagclfalaaaa
open Go Go.Vc Go.Proofs
theorem pow1(n:Nat):1<=2^n:=Nat.pow_pos (by omega)
def all4:List Cq:=[⟨1,0⟩,⟨0,-1⟩,⟨-1,0⟩,⟨0,1⟩]
def rootsQ(n:Nat):List Cq:=(List.range n).map λj=>nth all4 (4 / n*j)
theorem all4_1:(⟨((1:Int):Rat),0⟩:Cq)=⟨1,0⟩:=Cq.ext' (by simp) rfl
theorem all4_2:(⟨((0:Int):Rat) / ((1:Int):Rat),((-1:Int):Rat) / ((1:Int):Rat)⟩:Cq)=⟨0,-1⟩:=Cq.ext' (by simp only[]; grind) (by simp only[]; grind)
theorem all4_3:(⟨((-1:Int):Rat),0⟩:Cq)=⟨-1,0⟩:=Cq.ext' (by simp only[]; grind) rfl
theorem all4_4 : -(⟨0,-1⟩:Cq)=⟨0,1⟩:=Cq.ext' (by rw[Cq.neg_re]; grind) (by rw[Cq.neg_im]; grind)
theorem transform_Exact_spec{V:View}{n:Nat}(hn:n=1\/n=2\/n=4) :
 CallV Try.prog n_transform_Exact #[.int .i64 (n:Int)] V λv V'=>∃r:Sl,v = .tuple #[r.v,.int .i64 0]/\NumsAt V' r (rootsQ n):=by
 have hd:(4 / n)*n=4:=by rcases hn with rfl|rfl|rfl<;>rfl
 have hpos:1<=4 / n:=by rcases hn with rfl|rfl|rfl<;>decide
 have hn4:n<=4:=by omega
 have hn0:n≠0:=by omega
 have hdi:Int.tdiv 4 (n:Int)=((4 / n:Nat):Int):=by rcases hn with rfl|rfl|rfl<;>rfl
 have hw:IntKind.i64.wrap (Int.tdiv 4 (n:Int))=((4 / n:Nat):Int):=by
  rw[hdi]
  refine i64w (by omega) ?_
  have:4 / n<=4:=Nat.div_le_self _ _
  omega
 have hq:4 / n<=4:=Nat.div_le_self _ _
 refine transform_Exact_vc (n:Int) V _ (λc x V'=>∃l,NumsAt V' c.t6 all4/\x.t8=(4 / n*x.t7l:Nat)/\x.t7l<=n/\LstOk 5 x.t7l x.t7c x.o7 l/\NumsIn V' l ((List.range x.t7l).map λj=>nth all4 (4 / n*j)))
  (λ_ x _=>n-x.t7l) ((transform_length_spec (Int.natCast_nonneg _)).mono λv V1 l1 hv=>⟨_,hv,λh => ?_,λh=>⟨λh => ?_,λ_ => ?_⟩⟩)
 . exfalso
   rw[Int.toNat_natCast]at h
   rcases hn with rfl|rfl|rfl<;>exact absurd h (by decide)
 . exfalso; simp at h; omega
 refine(num_New_spec (by omega) (by omega) (by omega) (by omega) (by omega) (by omega) (by omega)).mono λv V2 l2 ⟨r2,hv,h2⟩=>⟨r2,0,hv,?_⟩
 refine(num_Int_spec (by omega) (by omega)).mono λv V3 l3 ⟨r4,hv,h4⟩=>⟨r4,hv,?_⟩
 refine(num_Int_spec (by omega) (by omega)).mono λv V4 l4 ⟨r5,hv,h5⟩=>⟨r5,hv,?_⟩
 rw[all4_2]at h2
 rw[all4_1]at h4
 rw[all4_3]at h5
 refine(Num_Neg_spec (h2.le (View.le_trans l3 l4))).mono λv V5 l5 ⟨r6,hv,h6⟩=>⟨r6,hv,?_⟩
 rw[all4_4]at h6
 intro b V6 l6 hf hb
 have hall:NumsAt V6 (Sl.mk (some (Addr.mk b 0 none)) 4 4) all4 :=
  ListAt.of_made (o:=[.bool r4.re.neg,r4.re.mag.v,.bool r4.im.neg,r4.im.mag.v,r4.under.v]++([.bool r2.re.neg,r2.re.mag.v,.bool r2.im.neg,r2.im.mag.v,r2.under.v]++([.bool r5.re.neg,r5.re.mag.v,.bool r5.im.neg,r5.im.mag.v,r5.under.v]++([.bool r6.re.neg,r6.re.mag.v,.bool r6.im.neg,r6.im.mag.v,r6.under.v]++[]))))
   (by simpa using hb)
   ⟨_,_,rfl,rfl,⟨r4,rfl,h4.le (View.le_trans l4 (View.le_trans l5 l6))⟩,_,_,rfl,rfl,⟨r2,rfl,h2.le (View.le_trans l3 (View.le_trans l4 (View.le_trans l5 l6)))⟩,_,_,rfl,rfl,⟨r5,rfl,h5.le (View.le_trans l5 l6)⟩,_,_,rfl,rfl,⟨r6,rfl,h6.le l6⟩,rfl⟩ rfl
 refine⟨⟨[],hall,by simp,by simp,LstOk.nil,rfl⟩,?_⟩
 rintro⟨k,c,t,o⟩ V7 l7 ⟨l,hA,ht,hk,hlo,hin⟩
 simp only at hA ht hk hlo hin ⊢
 refine⟨λhlt => ?_,λhge => ?_⟩
 . simp only[decide_eq_true_eq]at hlt
   have hkn:k<n:=by
    rcases Nat.lt_or_ge k n with h|h
    . exact h
    . have:=Nat.mul_le_mul_left (4 / n) h
      omega
   obtain⟨hb',x,hx,hs,hnx⟩:=hA.get (t:=t) (by omega) (by simp[all4]; omega)
   refine⟨hb',x,hx,hs,λb2 V8 l8 hf8 hb8 => ?_⟩
   refine⟨l,_,hlo,has_block (l:=[.bool x.re.neg,x.re.mag.v,.bool x.im.neg,x.im.mag.v,x.under.v]) hb8,rfl,oneCell_num x,Nat.le_trans (show k+1<=5 by omega) (show 5<=maxLen by decide),by omega,λc1 l3' hl3=>⟨by omega,⟨_,hA.le l8,?_,by omega,hl3,?_⟩,by omega⟩⟩
   . rw[hw,i64w (by omega) (by omega),ht,Nat.mul_add]; omega
   . rw[<-push_range]
     have e3:4 / n*k=t.toNat:=by omega
     rw[e3]
     exact(hin.le l8).push (hnx.le l8)
 . simp only[decide_eq_false_iff_not]at hge
   intro b3 V9 l9 hb9
   refine⟨_,rfl,?_⟩
   have hkn:k=n:=by
    rcases Nat.lt_or_ge k n with h|h
    . have:=Nat.mul_le_mul_left (4 / n) (show k+1<=n from h)
      rw[Nat.mul_add]at this
      omega
    . omega
   subst hkn
   refine ListAt.of_lst hlo hb9 (hin.le l9) ?_
   simp[rootsQ]
theorem transform_Fast_spec{V:View}{p w:Sl}{m:Nat}{zs ws:List Cq}(S T:Nat)(hm:m<=6)(hz:zs.length=2^m)(hw:ws.length=2^m)(hp:NumsAt V p zs)(hq:NumsAt V w ws)
 (hS:∀i,i<2^m->(nth zs i).sz<=S) (hT:∀i,i<2^m->(nth ws i).sz<=T) (hsz:2^m*(S+T+2)<=2^39) :
 CallV Try.prog n_transform_Fast_num_Num_ #[p.v,w.v] V λv V'=>∃r:Sl,v = .tuple #[r.v,.int .i64 0]/\NumsAt V' r (stageF m zs ws):=by
 have hpl:=hp.len
 have hwl:=hq.len
 have hl:lenB w.len=true:=by
  rw[hwl,hw]
  have key:∀m∈List.range 7,lenB (2^m)=true:=by decide
  exact key m (by simp; omega)
 refine transform_Fast_num_Num__vc p w V _ ((transform_fits_spec p w).mono λv V1 l1 hv=>⟨_,hv,λh => ?_,λh => ?_⟩)
 . rw[hl]at h; simp at h; omega
 . have ne:stageF m zs ws≠[]:=by
     intro e
     have:=stageF_length m zs ws
     rw[e]at this; simp at this
     have:0<2^m:=Nat.pow_pos (by omega)
     omega
   exact(CallO.nums ne (transform_stage_owned m S T hm hz hw (hp.le l1) (hq.le l1) hS hT hsz)).mono λv V2 l2 ⟨r,hv,hr⟩=>⟨r,hv,r,rfl,hr⟩
def gateOk(g:GateV)(n:Int):Prop:=0<=g.from_/\g.from_<n/\0<=g.count/\g.count<=n
theorem transform_valid_ok{V:View}{g:GateV}{n:Nat}(hl:lenB n=true)(h:gateOk g n) :
 CallV Try.prog n_transform_valid #[g.val,.int .i64 (n:Int)] V λv _=>v = .int .i64 0:=by
 obtain⟨h1,h2,h3,h4⟩:=h
 refine transform_valid_vc g n V _ ((transform_length_spec (Int.natCast_nonneg _)).mono λv V1 l1 hv=>⟨_,hv,λh => ?_,λ_=>⟨λh => ?_,λ_=>⟨λh => ?_,λ_=>⟨λh => ?_,λ_=>⟨λh => ?_,λ_=>rfl⟩⟩⟩⟩⟩)
 . rw[Int.toNat_natCast,hl]at h; simp at h
 . simp at h; omega
 . simp at h; omega
 . simp at h; omega
 . simp at h; omega
theorem transform_Rest_ok{V:View}{g:GateV}{n:Nat}(hl:lenB n=true)(h:gateOk g n) :
 CallV Try.prog n_transform_Rest #[g.val,.int .i64 (n:Int)] V λv _=>v = .tuple #[(GateV.mk ((g.from_+g.count)%n) (n-g.count)).val,.int .i64 0]:=by
 have hb:=lenB_le hl
 obtain⟨h1,h2,h3,h4⟩:=id h
 refine transform_Rest_vc g n V _ ((transform_valid_ok hl h).mono λv V1 l1 hv=>⟨_,hv,λh => ?_,λ_=>⟨by omega,?_⟩⟩)
 . simp at h
 . rw[i64w (by omega) (by omega),i64w (by omega) (by omega),Int.tmod_eq_emod_of_nonneg (by omega)]
theorem slices_Reverse_one{V:View}{c:Nat}{w:List Value} :
 CallD Try.prog n_slices_Reverse___byte_byte_ (λb=>(Value.slice (some ⟨b,0,none⟩) 1 c::[]:List Value)) T_u8 w V λv l _=>v = .tuple #[]/\l=w:=by
 refine slices_Reverse___byte_byte__vc 0 1 c w V _ (λ_ x _=>x.t2=0/\x.t3=0/\x.o0=w) (λ_ _ _=>0) ⟨⟨rfl,(by decide:IntKind.i64.wrap (((1:Nat):Int)-1)=0),rfl⟩,?_⟩
 rintro⟨a,b,o⟩ V1 l1 ⟨h1,h2,h3⟩
 dsimp only at h1 h2 h3 ⊢
 subst h1; subst h2; subst h3
 exact⟨λh=>absurd h (by simp),λ_=>⟨rfl,rfl⟩⟩
theorem nat_digits_one{V:View}{s:Sl}{n:Nat}(h:NatAt V s n)(h0:0<n)(h9:n<10) :
 CallV Try.prog n_nat_digits #[s.v] V λv _=>v = .string (ByteArray.mk #[UInt8.ofNat (48+n)]):=by
 have hl:=h.len_zero
 refine nat_digits_vc s V _
  (λ_ x V'=>(NatAt V' x.t0 n/\x.t3l=0/\x.t3c=0/\x.o3=[])\/(x.t0.len=0/\x.t3l=1/\LstOk 1 1 x.t3c x.o3 [.int .u8 ((48+n:Nat):Int)])) (λ_ x _=>x.t0.len)
  (λc x V'=>c.t0.len=0/\((x.t3l=0/\x.t3c=0/\x.t4=n/\x.t5=0/\x.o3=[])\/(x.t3l=1/\x.t4=0/\x.t5=1/\LstOk 1 1 x.t3c x.o3 [.int .u8 ((48+n:Nat):Int)]))) (λ_ x _=>1-x.t3l)
  ⟨λh1 => ?_,λ_=>⟨.inl ⟨h,rfl,rfl,rfl⟩,?_⟩⟩
 . exfalso; have h1:(s.len:Int)=0:=(by simpa using h1); omega
 rintro⟨t0,t3l,t3c,o3⟩ V1 l1 hI
 dsimp only at hI ⊢
 refine⟨λhp => ?_,λhz => ?_⟩
 . simp only[gt_iff_lt,decide_eq_true_eq]at hp
   rcases hI with⟨hA,rfl,rfl,rfl⟩|⟨hA,_⟩
   rotate_left
   . exfalso; omega
   have hw:wn n<=2^45:=by have:wn n<=2:=wn_le_of_lt (by omega); omega
   refine(nat_short_spec hA hw (d:=1000000000) (by omega) (by omega)).mono λv V2 l2 ⟨r1,hv,hr1⟩=>⟨r1,_,hv,?_⟩
   rw[Nat.div_eq_of_lt (by omega)]at hr1
   have hr0:r1.len=0:=hr1.len_zero.2 rfl
   rw[Nat.mod_eq_of_lt (by omega)]
   refine⟨⟨hr0,.inl ⟨rfl,rfl,rfl,rfl,rfl⟩⟩,?_⟩
   rintro⟨t3l,t3c,t4,t5,o3⟩ V3 l3 ⟨_,hI⟩
   dsimp only at hI ⊢
   refine⟨λh9=>⟨λh => ?_,λ_=>⟨λhpos => ?_,λhnp => ?_⟩⟩,λh9 => ?_⟩
   . exfalso; simp[hr0]at h
   . simp only[gt_iff_lt,decide_eq_true_eq]at hpos
     rcases hI with⟨rfl,rfl,rfl,rfl,rfl⟩|⟨rfl,rfl,rfl,hA⟩
     rotate_left
     . exfalso; omega
     intro b1 V4 l4 hf hb
     have ed:IntKind.u8.wrap (IntKind.u32.wrap (48+Int.tmod (n:Int) 10))=((48+n:Nat):Int):=by
      have e1:Int.tmod (n:Int) 10=n:=by rw[Int.tmod_eq_emod_of_nonneg (by omega)]; omega
      rw[e1,u32w (by omega) (by omega)]
      have:∀n∈List.range 10,IntKind.u8.wrap (48+(n:Int))=((48+n:Nat):Int):=by decide
      exact this n (by simp; omega)
     rw[ed]at hb
     refine⟨[],[.int .u8 ((48+n:Nat):Int)],LstOk.nil,has_block hb,rfl,?_,by decide,by decide,λc1 l3 hl3=>⟨⟨hr0,.inr ⟨rfl,?_,?_,hl3⟩⟩,?_⟩⟩
     . intro v hv; simp at hv; subst hv; rfl
     . show IntKind.u32.wrap (Int.tdiv (n:Int) 10)=0
       have e1:Int.tdiv (n:Int) 10=0:=by rw[Int.tdiv_eq_ediv_of_nonneg (by omega)]; omega
       rw[e1]; decide
     . show IntKind.i64.wrap (0+1)=1
       decide
     . show 1-(0+1)<1-0
       decide
   . simp only[gt_iff_lt,decide_eq_false_iff_not]at hnp
     rcases hI with⟨rfl,rfl,rfl,rfl,rfl⟩|⟨rfl,rfl,rfl,hA⟩
     . exfalso; omega
     . exact⟨.inr ⟨hr0,rfl,hA⟩,by show r1.len<t0.len; omega⟩
   . rcases hI with⟨rfl,rfl,rfl,rfl,rfl⟩|⟨rfl,rfl,rfl,hA⟩<;>exact absurd h9 (by simp)
 . simp only[gt_iff_lt,decide_eq_false_iff_not]at hz
   rcases hI with⟨hA,rfl,rfl,rfl⟩|⟨hA,rfl,hlo⟩
   . exfalso; have:=hA.len_zero; omega
   obtain⟨o',e⟩:=hlo.split
   have hc:=hlo.le
   refine⟨⟨by rw[e]; simp,⟨by omega,trivial⟩,trivial⟩,slices_Reverse_one.mono λv l V7 l7 ⟨hv,hl⟩=>⟨hv,λb4 V8 l8 hb => ?_⟩⟩
   rw[hl]at hb
   refine⟨[UInt8.ofNat (48+n)],?_,rfl,rfl,rfl⟩
   have hh:=has_block hb
   intro j v hj
   refine hh j v ?_
   rw[e]
   have ev:byteV (UInt8.ofNat (48+n)) = .int .u8 ((48+n:Nat):Int):=by
    unfold byteV
    have:∀n∈List.range 10,((UInt8.ofNat (48+n)).toNat:Int)=((48+n:Nat):Int):=by decide
    rw[this n (by simp; omega)]
   cases j with
   | zero =>
     simp only[List.map_cons,List.map_nil,List.getElem?_cons_zero,Option.some.injEq]at hj
     rw[<-hj,ev]; rfl
   | succ j=>simp at hj
theorem small2:((1+1:Nat):Int)<=IntKind.i64.max:=by decide
theorem num_part_one{V:View}{x:WhV}{s:Sl}{a:Int}(hx:IntAt V x a)(hs:NatAt V s 1)(h0:a≠0)(h9:a.natAbs<10) :
 CallV Try.prog n_num_part #[x.val,s.v] V λv _=>v = .string (if a<0 then ByteArray.mk #[45]++ByteArray.mk #[UInt8.ofNat (48+a.natAbs)]else ByteArray.mk #[UInt8.ofNat (48+a.natAbs)]):=by
 obtain⟨e1,e2,e3⟩:=Cq.ofInt_eqs a
 have hw:wn a.natAbs<=2^43:=by have:wn a.natAbs<=2:=wn_le_of_lt (by omega); omega
 have hw0:wn (0:Int).natAbs<=2^43:=by have:wn 0<=2:=wn_le_of_lt (by omega); simp; omega
 have hw1:wn 1<=2^43:=by have:wn 1<=2:=wn_le_of_lt (by omega); omega
 refine num_part_vc x s V _ ((num_over_spec hx (IntAt.zero V) hs (Rep.ofInt a) hw hw0 hw1).mono λv V1 l1 ⟨r1,hv,hr⟩=>⟨r1,hv,?_⟩)
 have hre:=hr.re
 have hun:=hr.under
 rw[e1]at hre
 rw[e3,if_pos rfl]at hun
 have hul:r1.under.len=0:=hun.len_zero.2 rfl
 refine(nat_digits_one hre.2 (by omega) h9).mono λv V2 l2 hv=>⟨_,hv,λhneg=>⟨small2,λh => ?_,λ_ => ?_⟩,λhneg=>⟨λh => ?_,λ_ => ?_⟩⟩
 . exfalso; simp[hul]at h
 . rw[hre.1]at hneg
   rw[if_pos (by simpa using hneg)]
 . exfalso; simp[hul]at h
 . rw[hre.1]at hneg
   rw[if_neg (by simpa using hneg)]
theorem eqAt_gate:Go.Vc.EqAt Try.prog TN_api_Gate ((GateV.mk 1 2).val) ((GateV.mk 1 2).val) true:=λw=>by kernel_rfl
theorem awakeQ_eqs:(Cq.mk (-2) 2).A = -2/\(Cq.mk (-2) 2).B=2/\(Cq.mk (-2) 2).D=1 :=
 Canon.eqs ⟨⟨by omega,by simp only[]; rw[Rat.div_def]; grind,by simp only[]; rw[Rat.div_def]; grind⟩,by decide⟩
theorem small3:((1+1:Nat):Int)<=IntKind.i64.max:=by decide
theorem small4:((1+2:Nat):Int)<=IntKind.i64.max:=by decide
theorem small5:((2+3:Nat):Int)<=IntKind.i64.max:=by decide
theorem Num_Text_awake{V:View}{x:NumV}(h:NumAt V x ⟨-2,2⟩) :
 CallV Try.prog n_Num_Text #[x.val] V λv _=>v = .string (ByteArray.mk #[45,50,43,50,105]):=by
 obtain⟨e1,e2,e3⟩:=awakeQ_eqs
 have hre:=h.re
 have him:=h.im
 rw[e1]at hre
 rw[e2]at him
 refine Num_Text_vc x V _ ((Num_Real_spec h).mono λv V1 l1 hv=>⟨_,hv,λhr => ?_,λ_ => ?_⟩)
 . exfalso
   simp at hr
 refine(Num_den_spec (h.le l1)).mono λv V4 l4 ⟨r4,hv,h4⟩=>⟨r4,hv,?_⟩
 rw[e3]at h4
 refine(num_part_one (him.le (View.le_trans l1 l4)) h4 (by omega) (by decide)).mono λv V5 l5 hv=>⟨_,hv,small3,λh0 => ?_,λ_=>⟨λ_ => ?_,λhn => ?_⟩⟩
 . exfalso
   have h0:x.re.mag.len=0:=by have:(x.re.mag.len:Int)=0:=(by simpa using h0); omega
   have:=hre.2.len_zero.1 h0
   omega
 . refine⟨small4,(Num_den_spec (h.le (View.le_trans l1 (View.le_trans l4 l5)))).mono λv V6 l6 ⟨r6,hv,h6⟩=>⟨r6,hv,?_⟩⟩
   rw[e3]at h6
   refine(num_part_one (hre.le (View.le_trans l1 (View.le_trans l4 (View.le_trans l5 l6)))) h6 (by omega) (by decide)).mono λv V7 l7 hv=>⟨_,hv,small5,?_⟩
   rfl
 . exfalso
   rw[him.1]at hn
   exact absurd hn (by decide)
def four:List RatV:=[⟨1,0,0⟩,⟨2,0,0⟩,⟨3,0,0⟩,⟨4,0,0⟩]
theorem four_ok:∀r∈four,ratI r:=by
 intro r hr
 simp only[four,List.mem_cons,List.not_mem_nil,or_false]at hr
 rcases hr with rfl|rfl|rfl|rfl<;>exact⟨⟨by decide,by decide⟩,⟨by decide,by decide⟩,⟨by decide,by decide⟩⟩
theorem four_sz:∀i,i<2^2->(nth (four.map ratQ) i).sz<=4:=by
 decide +kernel
theorem roots_sz:∀i,i<2^2->(nth (rootsQ 4) i).sz<=4:=by
 decide +kernel
theorem awake_stage:nth (stageF 2 (four.map ratQ) (rootsQ 4)) 1=⟨-2,2⟩:=by
 decide +kernel
theorem ratC_of(V:View)(a b c:Int):ratC V [.int .i64 a,.int .i64 b,.int .i64 c] ⟨a,b,c⟩:=by unfold ratC; rfl
theorem awake_spec{V:View}:CallV Try.prog n_waveportlaw07_awake #[] V λv _=>v = .bool true:=by
 refine waveportlaw07_awake_vc V _ ((transform_Exact_spec (n:=4) (by omega)).mono λv V1 l1 ⟨w,hv,hw⟩=>⟨w,0,hv,?_⟩)
 intro b V2 l2 hf hb
 have hrs:RatsAt V2 (Sl.mk (some (Addr.mk b 0 none)) 4 4) four :=
  ListAt.of_made (o:=[.int .i64 1,.int .i64 0,.int .i64 0]++([.int .i64 2,.int .i64 0,.int .i64 0]++([.int .i64 3,.int .i64 0,.int .i64 0]++([.int .i64 4,.int .i64 0,.int .i64 0]++[]))))
   (by simpa using hb) ⟨_,_,rfl,rfl,ratC_of _ _ _ _,_,_,rfl,rfl,ratC_of _ _ _ _,_,_,rfl,rfl,ratC_of _ _ _ _,_,_,rfl,rfl,ratC_of _ _ _ _,rfl⟩ rfl
 refine(law1_List_spec hrs four_ok (by decide)).mono λv V3 l3 ⟨r3,hv,h3⟩=>⟨r3,hv,?_⟩
 refine(transform_Fast_spec (m:=2) 4 4 (by omega) rfl rfl h3 (hw.le (View.le_trans l2 l3)) four_sz roots_sz (by decide)).mono λv V4 l4 ⟨r4,hv,h4⟩=>⟨r4,0,hv,?_⟩
 refine(transform_Rest_ok (g:=GateV.mk 3 2) (n:=4) (by decide) ⟨by decide,by decide,by decide,by decide⟩).mono λv V5 l5 hv=>⟨GateV.mk 1 2,0,hv,?_⟩
 have hl:r4.len=4:=h4.len
 obtain⟨hb',x,hx,hs,hnx⟩:=(h4.le l5).get (t:=1) (by omega) (by show 1<4; omega)
 have e1:nth (stageF 2 (four.map ratQ) (rootsQ 4)) (Int.toNat 1)=⟨-2,2⟩:=awake_stage
 rw[e1]at hnx
 refine⟨λ_=>⟨λ_=>⟨λ_=>⟨λ_=>⟨hb',x,hx,hs,(Num_Text_awake hnx).mono λv V6 l6 hv=>⟨_,hv,λ_=>⟨true,eqAt_gate,rfl⟩,λh => ?_⟩⟩,λh => ?_⟩,λh => ?_⟩,λh => ?_⟩,λh => ?_⟩
 . simp at h
 . simp[hl]at h
 . simp at h
 . simp at h
 . simp at h
def smallR(r:RatV):RatV:=⟨Int.tmod r.re 21,Int.tmod r.im 21,((Int.tmod r.den 6).natAbs+1:Nat)⟩
def tame(r:RatV):Prop:=(-20<=r.re/\r.re<=20)/\(-20<=r.im/\r.im<=20)/\0<=r.den/\r.den<=6
theorem tame.ok{r:RatV}(h:tame r):ratI r:=by
 obtain⟨⟨a,b⟩,⟨c,d⟩,e,f⟩:=h
 exact⟨⟨by omega,by omega⟩,⟨by omega,by omega⟩,⟨by omega,by omega⟩⟩
theorem tmod_range(a:Int){b:Int}(hb:0<b) : -b<Int.tmod a b/\Int.tmod a b<b:=by
 have h1:=Int.tmod_lt_of_pos a hb
 have h2:=Int.tmod_lt_of_pos (-a) hb
 rw[Int.neg_tmod]at h2
 omega
theorem smallR_tame(r:RatV):tame (smallR r):=by
 have h1:=tmod_range r.re (b:=21) (by omega)
 have h2:=tmod_range r.im (b:=21) (by omega)
 have h3:=tmod_range r.den (b:=6) (by omega)
 refine⟨⟨?_,?_⟩,⟨?_,?_⟩,?_,?_⟩<;>simp only[smallR]<;>omega
theorem tame_zero:tame ⟨0,0,0⟩:=⟨⟨by decide,by decide⟩,⟨by decide,by decide⟩,by decide,by decide⟩
theorem tame_sz{r:RatV}(h:tame r):(ratQ r).sz<=5:=by
 obtain⟨⟨a,b⟩,⟨c,d⟩,e,f⟩:=h
 have key:Rep (ratQ r) r.re r.im (if r.den=0 then 1 else r.den.toNat):=by
  unfold ratQ
  split
  . refine⟨by omega,?_,?_⟩<;>simp only[]<;>rw[Rat.div_def]<;>simp<;>grind
  . have e:((r.den.toNat:Nat):Rat)=(r.den:Rat):=by
      have:((r.den.toNat:Nat):Int)=r.den:=by omega
      rw[<-this]; rfl
    exact⟨by omega,by simp only[e],by simp only[e]⟩
 refine key.sz ?_ ?_ ?_
 . exact bl_le_of_lt (by omega)
 . exact bl_le_of_lt (by omega)
 . exact bl_le_of_lt (by split<;>omega)
theorem small_spec{V:View}(r:RatV):CallV Try.prog n_waveportlaw07_small #[r.val] V λv _=>v=(smallR r).val:=by
 have h3:=tmod_range r.den (b:=6) (by omega)
 refine waveportlaw07_small_vc r V _ ⟨λh => ?_,λh => ?_⟩
 . simp only[decide_eq_true_eq]at h
   rw[i64w (n:=0-Int.tmod r.den 6) (by omega) (by omega),i64w (by omega) (by omega)]
   have e:0-Int.tmod r.den 6+1=(((Int.tmod r.den 6).natAbs+1:Nat):Int):=by omega
   rw[e]; rfl
 . simp only[decide_eq_false_iff_not]at h
   rw[i64w (by omega) (by omega)]
   have e:Int.tmod r.den 6+1=(((Int.tmod r.den 6).natAbs+1:Nat):Int):=by omega
   rw[e]; rfl
def rnth(rs:List RatV)(i:Nat):RatV:=rs.getD i ⟨0,0,0⟩
def repeatedR(rs:List RatV)(n:Nat):List RatV:=(List.range n).map λi=>if rs=[]then⟨0,0,0⟩else smallR (rnth rs (i%rs.length))
theorem repeatedR_tame(rs:List RatV)(n:Nat):∀r∈repeatedR rs n,tame r:=by
 intro r hr
 obtain⟨i,_,rfl⟩:=List.mem_map.1 hr
 split
 . exact tame_zero
 . exact smallR_tame _
def rfilled(n k:Nat)(f:Nat->RatV):List RatV:=(List.range k).map f++List.replicate (n-k) ⟨0,0,0⟩
theorem rfilled_length{n k:Nat}(h:k<=n)(f:Nat->RatV):(rfilled n k f).length=n:=by simp[rfilled]; omega
theorem rfilled_set{n k:Nat}(h:k<n)(f:Nat->RatV):(rfilled n k f).set k (f k)=rfilled n (k+1) f:=by
 unfold rfilled
 rw[List.set_append_right _ _ (by simp)]
 simp only[List.length_map,List.length_range,Nat.sub_self]
 have:n-k=(n-(k+1))+1:=by omega
 rw[this,List.replicate_succ,List.set_cons_zero,List.range_succ,List.map_append]; simp
theorem repeated_spec{V:View}{s:Sl}{rs:List RatV}{n:Nat}(h:RatsAt V s rs)(hr:rs.length<2^64)(hn:n<=2^32) :
 CallV Try.prog n_waveportlaw07_repeated #[s.v,.int .i64 (n:Int)] V λv V'=>∃r:Sl,v=r.v/\RatsAt V' r (repeatedR rs n):=by
 have hl:=h.len
 let f:Nat->RatV:=λi=>if rs=[]then⟨0,0,0⟩else smallR (rnth rs (i%rs.length))
 refine waveportlaw07_repeated_vc s (n:Int) V _ (λ_ x V'=>0<=x.t11/\x.t11<=n/\Cells 3 ratC V' x.o8 (rfilled n x.t11.toNat f)) (λ_ x _=>n-x.t11.toNat) ⟨⟨by omega,by omega,by omega,by omega⟩,⟨Int.le_refl 0,Int.natCast_nonneg _,?_⟩,?_⟩
 . rw[Int.toNat_natCast]
   show Cells 3 ratC V _ (rfilled n 0 f)
   have e:rfilled n 0 f=List.replicate n ⟨0,0,0⟩:=by simp[rfilled]
   rw[e]
   exact Cells.replicate rfl (ratC_of V 0 0 0) n
 rintro⟨t,o⟩ V1 l1 ⟨h0,h1,hin⟩
 dsimp only at h0 h1 hin ⊢
 rw[Int.toNat_natCast]
 refine⟨λhlt => ?_,λhge => ?_⟩
 . simp only[decide_eq_true_eq]at hlt
   have hkn:t.toNat<n:=by omega
   have e1:IntKind.i64.wrap (t+1)=t+1:=i64w (by omega) (by omega)
   have e2:(t+1).toNat=t.toNat+1:=by omega
   rw[e1]
   refine⟨λhp => ?_,λhz => ?_⟩
   . simp only[gt_iff_lt,decide_eq_true_eq]at hp
     have hm:Int.tmod t (s.len:Int)=((t.toNat%rs.length:Nat):Int):=by
      rw[Int.tmod_eq_emod_of_nonneg h0,hl]
      conv=>lhs; rw[<-Int.toNat_of_nonneg h0]
      rfl
     have hmlt:t.toNat%rs.length<rs.length:=Nat.mod_lt _ (by omega)
     rw[hm]
     obtain⟨hb,x,hx,_,hh,hs⟩:=ListAt.get (h.le l1) (t:=((t.toNat%rs.length:Nat):Int)) (Int.natCast_nonneg _) (z:=rnth rs (t.toNat%rs.length)) (by rw[Int.toNat_natCast]; simp[rnth,List.getD,hmlt])
     refine⟨by omega,hb,rnth rs (t.toNat%rs.length),hx▸hh,hs,(small_spec _).mono λv V2 l2 hv=>⟨_,hv,⟨h0,hlt⟩,Cells.room hin (by rw[rfilled_length (by omega)]; omega),⟨by omega,by omega,?_⟩,by omega⟩⟩
     rw[e2,<-rfilled_set hkn]
     have ef:f t.toNat=smallR (rnth rs (t.toNat%rs.length)):=by
      simp only[f]; rw[if_neg (by intro e; subst e; simp at hl; omega)]
     rw[ef]
     exact Cells.set0 (Cells.imp (P:=ratC) (V:=V1) (P':=ratC) (V':=V2) (λ_ _ h=>h) hin) (by rw[rfilled_length (by omega)]; omega) rfl (ratC_of V2 _ _ _)
   . simp only[gt_iff_lt,decide_eq_false_iff_not]at hz
     refine⟨⟨by omega,by omega,?_⟩,by omega⟩
     have he:rs=[]:=by apply List.eq_nil_of_length_eq_zero; omega
     rw[e2,<-rfilled_set hkn]
     have ef:f t.toNat=⟨0,0,0⟩:=by simp only[f]; rw[if_pos he]
     rw[ef]
     have:(rfilled n t.toNat f).set t.toNat ⟨0,0,0⟩=rfilled n t.toNat f:=by
      apply List.ext_getElem (by simp)
      intro i g1 g2
      rw[List.getElem_set]
      split
      . rename_i e; subst e
        simp only[rfilled]
        rw[List.getElem_append_right (by simp)]; simp
      . rfl
     rw[this]; exact hin
 . simp only[decide_eq_false_iff_not]at hge
   intro b V3 l3 hb
   have e:t.toNat=n:=by omega
   rw[e]at hin
   have e2:rfilled n n f=repeatedR rs n:=by simp[rfilled,repeatedR,f]
   rw[e2]at hin
   exact⟨_,rfl,ListAt.of_made hb (Cells.imp (P:=ratC) (V:=V1) (P':=ratC) (V':=V3) (λ_ _ h=>h) hin) (by simp[repeatedR])⟩
def exactQ(rs:List RatV)(n:Nat):List Cq:=(repeatedR rs n).map ratQ
theorem exactQ_length(rs:List RatV)(n:Nat):(exactQ rs n).length=n:=by simp[exactQ,repeatedR]
theorem exactQ_sz(rs:List RatV)(n:Nat):∀i,i<n->(nth (exactQ rs n) i).sz<=5:=by
 intro i hi
 have h:nth (exactQ rs n) i∈exactQ rs n:=by
  have hl:=exactQ_length rs n
  have:nth (exactQ rs n) i=(exactQ rs n)[i]:=by simp[nth,List.getD,hl,hi]
  rw[this]; exact List.getElem_mem _
 obtain⟨r,hr,e⟩:=List.mem_map.1 h
 rw[<-e]; exact tame_sz (repeatedR_tame rs n r hr)
def sizeN(p:Int):Nat:=2^(Int.tmod p 3).toNat
theorem sizeN_cases{p:Int}(h:0<=p):sizeN p=1\/sizeN p=2\/sizeN p=4:=by
 have:Int.tmod p 3=0\/Int.tmod p 3=1\/Int.tmod p 3=2:=by
  rw[Int.tmod_eq_emod_of_nonneg h]; omega
 unfold sizeN
 rcases this with e|e|e<;>rw[e]<;>simp
theorem shift_one{p:Int}(h:0<=p):IntKind.i64.wrap (1*2^(min (Int.toNat (Int.tmod p 3)) (IntKind.bits .i64)))=((sizeN p:Nat):Int):=by
 have:Int.tmod p 3=0\/Int.tmod p 3=1\/Int.tmod p 3=2:=by
  rw[Int.tmod_eq_emod_of_nonneg h]; omega
 unfold sizeN
 rcases this with e|e|e<;>rw[e]<;>decide
theorem exact_spec{V:View}{s:Sl}{rs:List RatV}{p:Int}(h:RatsAt V s rs)(hr:rs.length<2^64)(hp:0<=p) :
 CallV Try.prog n_waveportlaw07_exact #[s.v,.int .u8 p] V λv V'=>∃x w:Sl,v = .tuple #[x.v,w.v]/\NumsAt V' x (exactQ rs (sizeN p))/\NumsAt V' w (rootsQ (sizeN p)):=by
 have hc:=sizeN_cases hp
 have hm:0<=Int.tmod p 3:=by rw[Int.tmod_eq_emod_of_nonneg hp]; omega
 have hle:sizeN p<=2^32:=by omega
 refine waveportlaw07_exact_vc s p V _ ⟨hm,?_⟩
 rw[shift_one hp]
 refine(transform_Exact_spec (n:=sizeN p) hc).mono λv V1 l1 ⟨w,hv,hw⟩=>⟨w,0,hv,?_⟩
 refine(repeated_spec (h.le l1) hr hle).mono λv V2 l2 ⟨r,hv,hrr⟩=>⟨r,hv,?_⟩
 refine(law1_List_spec hrr (λr hr=>(repeatedR_tame rs _ r hr).ok) (by simp[repeatedR]; omega)).mono λv V3 l3 ⟨x,hv,hx⟩=>⟨x,hv,x,w,rfl,hx,hw.le (View.le_trans l2 l3)⟩
theorem of_spec{V:View}{p q:Int}(p0 : -9223372036854775808<=p)(p1:p<=9223372036854775807)(q0 : -9223372036854775808<=q)(q1:q<=9223372036854775807)(hq:q≠0) :
 CallV Try.prog n_transform_of_num_Num_ #[.int .i64 p,.int .i64 q] V λv V'=>∃r:NumV,v=r.val/\NumAt V' r ⟨(p:Rat) / (q:Rat),((0:Int):Rat) / (q:Rat)⟩:=by
 refine transform_of_num_Num__vc p q V _ ((num_New_spec p0 p1 (by omega) (by omega) q0 q1 hq).mono λv V1 l1 ⟨r,hv,hr⟩=>⟨r,0,hv,?_⟩)
 exact(Num_Of_spec hr).mono λv V2 l2 ⟨r3,hv,h3⟩=>⟨r3,hv,r3,rfl,h3⟩
theorem Forward_owned{V:View}{p w:Sl}{zs ws:List Cq}(S T:Nat)(hl:lenB zs.length=true)(hw:ws.length=zs.length)(hp:NumsAt V p zs)(hq:NumsAt V w ws)
 (hS:∀i,i<zs.length->(nth zs i).sz<=S) (hT:∀i,i<zs.length->(nth ws i).sz<=T) (hsz:64*(S+T+2)<=2^39) :
 CallO Try.prog n_transform_Forward_num_Num_ #[p.v,w.v] TN_num_Num V λn cap l rest V'=>n=(fwdF zs ws).length/\cap=n/\rest=[.int .i64 0]/\NumsIn V' l (fwdF zs ws):=by
 have hpl:=hp.len
 have hwl:=hq.len
 have hb:=lenB_le hl
 rw[fwdF_length]
 refine transform_Forward_num_Num__vc p w V _ (λ_ x V'=>0<=x.t21/\x.t21<=zs.length/\NumsIn V' x.o18 (filled zs.length x.t21.toNat λk=>fsum zs ws k (zs.length-1))) (λ_ x _=>zs.length-x.t21.toNat)
  (λc x V'=>1<=x.t10/\x.t10<=zs.length/\NumAt V' x.o9 (fsum zs ws c.t21.toNat (x.t10.toNat-1))/\NumsIn V' x.o18 (filled zs.length c.t21.toNat λk=>fsum zs ws k (zs.length-1))) (λ_ x _=>zs.length-x.t10.toNat)
  ((transform_fits_spec p w).mono λv V1 l1 hv=>⟨_,hv,λh => ?_,λh=>⟨⟨by omega,by omega,by omega,by omega⟩,⟨Int.le_refl 0,Int.natCast_nonneg _,?_⟩,?_⟩⟩)
 . rw[hwl,hw,hl,hpl]at h; simp at h
 . rw[Int.toNat_natCast,hpl]
   show NumsIn V1 _ (filled zs.length 0 _)
   rw[filled_zero]; exact NumsIn.zeros _ _
 rintro⟨t,o⟩ V2 l2 ⟨h0,ht,ho⟩
 dsimp only at h0 ht ho ⊢
 rw[Int.toNat_natCast,hpl]
 have hp2:=hp.le (View.le_trans l1 l2)
 have hq2:=hq.le (View.le_trans l1 l2)
 refine⟨λhlt => ?_,λhge => ?_⟩
 . simp only[decide_eq_true_eq]at hlt
   have hk:t.toNat<zs.length:=by omega
   obtain⟨hb3,x3,hx3,hs3,hn3⟩:=hp2.get (t:=0) (Int.le_refl 0) (by show 0<_; omega)
   obtain⟨hb4,x4,hx4,hs4,hn4⟩:=hq2.get (t:=0) (Int.le_refl 0) (by show 0<_; omega)
   rw[hpl]at hb3
   refine⟨hb3,x3,hx3,hs3,hb4,x4,hx4,hs4,(Num_Mul_spec hn3 hn4 (by have:=hS 0 (by omega); show(nth zs 0).sz<=_; omega) (by have:=hT 0 (by omega); show(nth ws 0).sz<=_; omega)).mono λv V3 l3 ⟨r2,hv,hr2⟩=>⟨r2,hv,⟨Int.le_refl 1,by show(1:Int)<=_; omega,hr2,ho.le l3⟩,?_⟩⟩
   rintro⟨j,sm,o6⟩ V4 l4 ⟨hj1,hj2,hsm,ho6⟩
   dsimp only at hj1 hj2 hsm ho6 ⊢
   refine⟨λhjl => ?_,λhjg => ?_⟩
   . simp only[decide_eq_true_eq]at hjl
     have hjk:j.toNat<zs.length:=by omega
     obtain⟨hb7,x7,hx7,hs7,hn7⟩:=(hp2.le (View.le_trans l3 l4)).get (t:=j) (by omega) hjk
     have hprod:IntKind.i64.wrap (j*t)=((j.toNat*t.toNat:Nat):Int):=by
      have h1:j*t=((j.toNat*t.toNat:Nat):Int):=by
       rw[Int.natCast_mul,Int.toNat_of_nonneg (by omega),Int.toNat_of_nonneg h0]
      rw[h1]
      have h2:j.toNat*t.toNat<=64*64:=Nat.mul_le_mul (by omega) (by omega)
      exact i64w (by omega) (by omega)
     have hmod:Int.tmod (IntKind.i64.wrap (j*t)) (zs.length:Int)=((j.toNat*t.toNat%zs.length:Nat):Int):=by
      rw[hprod,Int.tmod_eq_emod_of_nonneg (Int.natCast_nonneg _)]; rfl
     have hml:j.toNat*t.toNat%zs.length<zs.length:=Nat.mod_lt _ (by omega)
     rw[hmod]
     obtain⟨hb8,x8,hx8,hs8,hn8⟩:=(hq2.le (View.le_trans l3 l4)).get (t:=((j.toNat*t.toNat%zs.length:Nat):Int)) (Int.natCast_nonneg _) (by rw[Int.toNat_natCast]; omega)
     rw[Int.toNat_natCast]at hn8
     rw[hpl]at hb7
     have sj:=hS _ hjk
     have sw:=hT _ hml
     have sm1:=fsum_sz zs ws t.toNat S T hw hS hT (j.toNat-1) (by omega)
     have sm2:(j.toNat-1+1)*(S+T+2)<=64*(S+T+2):=Nat.mul_le_mul_right _ (by omega)
     have sm3:=Cq.sz_mul (nth zs j.toNat) (nth ws (j.toNat*t.toNat%zs.length))
     refine⟨hb7,x7,hx7,hs7,by omega,hb8,x8,hx8,hs8,(Num_Mul_spec hn7 hn8 (by omega) (by omega)).mono λv V5 l5 ⟨r3,hv,hr3⟩=>⟨r3,hv,?_⟩⟩
     refine(Num_Add_spec (hsm.le l5) hr3 (by omega) (by omega)).mono λv V6 l6 ⟨r4,hv,hr4⟩=>⟨r4,hv,?_⟩
     have e:IntKind.i64.wrap (j+1)=j+1:=i64w (by omega) (by omega)
     rw[e]
     refine⟨⟨by omega,by omega,?_,ho6.le (View.le_trans l5 l6)⟩,by omega⟩
     have e2:(j+1).toNat-1=(j.toNat-1)+1:=by omega
     have e3:j.toNat-1+1=j.toNat:=by omega
     rw[e2,fsum,e3]; exact hr4
   . simp only[decide_eq_false_iff_not]at hjg
     have e:IntKind.i64.wrap (t+1)=t+1:=i64w (by omega) (by omega)
     have e2:(t+1).toNat=t.toNat+1:=by omega
     have e3:j.toNat=zs.length:=by omega
     rw[e3]at hsm
     refine⟨⟨h0,hlt⟩,Cells.room ho6 (by rw[filled_length (by omega)]; omega),?_⟩
     rw[e]
     refine⟨⟨by omega,by omega,?_⟩,by omega⟩
     rw[e2,<-filled_set hk]
     exact ho6.set (by rw[filled_length (by omega)]; omega) hsm
 . simp only[decide_eq_false_iff_not]at hge
   have e:t.toNat=zs.length:=by omega
   rw[e,filled_all]at ho
   refine⟨⟨by omega,?_⟩,rfl,rfl,rfl,ho⟩
   intro eo
   subst eo
   have:=Cells.length ho
   simp at this; omega
theorem ne_of_len{zs:List Cq}(h:1<=zs.length):zs≠[]:=by intro e; subst e; simp at h
theorem lenB_pow:∀m∈List.range 7,lenB (2^m)=true:=by decide
theorem Forward_spec{V:View}{p w:Sl}{zs ws:List Cq}(S T:Nat)(hl:lenB zs.length=true)(hw:ws.length=zs.length)(hp:NumsAt V p zs)(hq:NumsAt V w ws)
 (hS:∀i,i<zs.length->(nth zs i).sz<=S) (hT:∀i,i<zs.length->(nth ws i).sz<=T) (hsz:64*(S+T+2)<=2^39) :
 CallV Try.prog n_transform_Forward_num_Num_ #[p.v,w.v] V λv V'=>∃r:Sl,v = .tuple #[r.v,.int .i64 0]/\NumsAt V' r (fwdF zs ws):=by
 have:=lenB_le hl
 exact CallO.nums1 (ne_of_len (by rw[fwdF_length]; omega)) (Forward_owned S T hl hw hp hq hS hT hsz)
theorem are_true{V:View}{p q:Sl}{zs:List Cq}(hp:NumsAt V p zs)(hq:NumsAt V q zs)(hn:zs.length<=2^32)(hS:∀i,i<zs.length->(nth zs i).sz<=2^40) :
 CallV Try.prog n_waveportlaw07_are #[p.v,.int .i64 0,q.v,.int .i64 0] V λv V'=>v = .bool true:=by
 have hpl:=hp.len
 have hql:=hq.len
 refine waveportlaw07_are_vc p 0 q 0 V _ (λ_ _ _=>True) (λ_ x _=>0<=x.t25/\x.t25<=zs.length) (λ_ x _=>zs.length-x.t25.toNat) ⟨⟨λh=>absurd h (by simp),λ_=>⟨λh=>absurd h (by simp),λ_=>⟨λh => ?_,λ_=>trivial⟩⟩⟩,?_⟩
 . exfalso; simp[hpl,hql]at h
 intro _ V1 l1 _
 refine⟨⟨Int.le_refl 0,Int.natCast_nonneg _⟩,?_⟩
 rintro⟨t⟩ V2 l2 ⟨h0,ht⟩
 dsimp only at h0 ht ⊢
 refine⟨λhlt => ?_,λ_=>rfl⟩
 simp only[decide_eq_true_eq]at hlt
 have hk:t.toNat<zs.length:=by omega
 obtain⟨hb8,x8,hx8,hs8,hn8⟩:=(hp.le (View.le_trans l1 l2)).get h0 hk
 obtain⟨hb9,x9,hx9,hs9,hn9⟩:=(hq.le (View.le_trans l1 l2)).get h0 hk
 refine⟨hb8,x8,hx8,hs8,hb9,x9,hx9,hs9,(Num_Same_spec hn8 hn9 (hS _ hk) (hS _ hk)).mono λv V3 l3 hv=>⟨_,hv,λh => ?_,λ_ => ?_⟩⟩
 . exfalso; simp at h
 . have e:IntKind.i64.wrap (t+1)=t+1:=i64w (by omega) (by omega)
   rw[e]
   exact⟨⟨by omega,by omega⟩,by show zs.length-(t+1).toNat<zs.length-t.toNat; omega⟩
theorem rootsQ_ones{m:Nat}(hm:m<=2):rootsQ (2^m)=onesF m:=by
 have:m=0\/m=1\/m=2:=by omega
 rcases this with rfl|rfl|rfl<;>simp[rootsQ,onesF,all4,nth,List.range_succ,one1,one2,one4]
theorem onesF_length{m:Nat}(hm:m<=2):(onesF m).length=2^m:=by
 have:m=0\/m=1\/m=2:=by omega
 rcases this with rfl|rfl|rfl<;>rfl
theorem onesF_sz{m:Nat}(hm:m<=2):∀i,i<2^m->(nth (onesF m) i).sz<=4:=by
 have:m=0\/m=1\/m=2:=by omega
 rcases this with rfl|rfl|rfl<;>decide +kernel
def sizeM(p:Int):Nat:=(Int.tmod p 3).toNat
theorem sizeM_le{p:Int}(h:0<=p):sizeM p<=2:=by
 unfold sizeM
 rw[Int.tmod_eq_emod_of_nonneg h]; omega
theorem exact_spec2{V:View}{s:Sl}{rs:List RatV}{p:Int}(h:RatsAt V s rs)(hr:rs.length<2^64)(hp:0<=p) :
 CallV Try.prog n_waveportlaw07_exact #[s.v,.int .u8 p] V λv V'=>∃x w:Sl,v = .tuple #[x.v,w.v]/\NumsAt V' x (exactQ rs (2^sizeM p))/\NumsAt V' w (onesF (sizeM p)):=by
 have:=exact_spec h hr hp
 rw[show sizeN p=2^sizeM p from rfl,rootsQ_ones (sizeM_le hp)]at this
 exact this
theorem zeroQ_eq:(⟨((0:Int):Rat) / ((1:Int):Rat),((0:Int):Rat) / ((1:Int):Rat)⟩:Cq)=Cq.zero:=Cq.ext' (by simp[Rat.div_def]; rfl) (by simp[Rat.div_def]; rfl)
theorem q_len5(r:NumV):[Value.bool r.re.neg,r.re.mag.v,.bool r.im.neg,r.im.mag.v,r.under.v].length=5:=rfl
theorem Shift_spec{V:View}{s:Sl}{zs:List Cq}{b:Int}(h:NumsAt V s zs)(hn:zs.length<=64) :
 CallV Try.prog n_transform_Shift_num_Num_ #[s.v,.int .i64 b] V λv V'=>∃r:Sl,v = .tuple #[r.v,.int .i64 0]/\NumsAt V' r (shiftF zs b):=by
 have hl:=h.len
 let F:Nat->Cq:=λp=>nth zs (preP zs.length (modB b zs.length) p)
 refine transform_Shift_num_Num__vc s b V _ (λ_ x V'=>∃k:Nat,x.t17=(k:Int)/\k<=zs.length/\OptIn numC V' x.o14 zs.length (λp=>if preP zs.length (modB b zs.length) p<k then some (F p)else none)) (λ_ x _=>(zs.length-x.t17).toNat) ?_
 rw[hl]
 refine⟨λh=>absurd h (by simp; omega),λ_=>⟨⟨by omega,by omega,by omega,by omega⟩,⟨0,rfl,by omega,?_⟩,?_⟩⟩
 . rw[Int.toNat_natCast]
   exact(OptIn.zeros numC V _).congr λp _=>by simp
 rintro⟨t,o⟩ V1 l1 ⟨k,rfl,hk,ho⟩
 dsimp only at ho ⊢
 refine⟨λhlt => ?_,λhge b V3 l3 hb => ?_⟩
 . simp only[decide_eq_true_eq]at hlt
   have hk':k<zs.length:=by omega
   have hm:=modB_lt b (n:=zs.length) (by omega)
   rw[moved_prog b hk' (by omega)]
   obtain⟨hb,x,hx,hs,hnx⟩:=(h.le l1).get (t:=(k:Int)) (by omega) (by rw[Int.toNat_natCast]; exact hk')
   rw[hl]at hb
   simp only[Int.toNat_natCast]at hx hs hnx ⊢
   have hq:(k+modB b zs.length)%zs.length<zs.length:=Nat.mod_lt _ (by omega)
   rw[i64w (n:=(k:Int)+1) (by omega) (by omega)]
   refine⟨by omega,by omega,hb,x,hx,hs,⟨by omega,by omega⟩,ho.room hq,⟨k+1,by omega,by omega,(ho.set hq (q_len5 x) (z:=nth zs k) ⟨x,rfl,hnx⟩).congr λp hp => ?_⟩,by omega⟩
   have hpe:=preP_eq hm hp hk'
   by_cases c:p=(k+modB b zs.length)%zs.length
   . rw[if_pos c]
     have c2:=hpe.2 c
     show _=if _ then some (nth zs (preP zs.length (modB b zs.length) p))else none
     rw[c2,if_pos (by omega)]
   . rw[if_neg c]
     have c2:preP zs.length (modB b zs.length) p≠k:=λe=>c (hpe.1 e)
     by_cases c3:preP zs.length (modB b zs.length) p<k
     . rw[if_pos c3,if_pos (by omega)]
     . rw[if_neg c3,if_neg (by omega)]
 . simp only[decide_eq_false_iff_not]at hge
   have hk':k=zs.length:=by omega
   subst hk'
   have ha:=(ho.le (numC.le l3)).all (F:=F) λp hp=>by rw[if_pos (preP_lt (modB_lt _ (by omega)) hp)]
   exact⟨_,rfl,ListAt.of_made (zs:=shiftF zs _) hb ha (by simp[shiftF])⟩
theorem listed_spec{V:View}(p q:Sl):CallV Try.prog n_transform_listed_num_Num_num_Num_ #[p.v,q.v] V λv _=>v = .bool (decide (p.len=q.len/\p.len<=64)):=by
 refine transform_listed_num_Num_num_Num__vc p q V _ ⟨λh => ?_,λh => ?_⟩
 . have h:p.len=q.len:=by have:(p.len:Int)=q.len:=(by simpa using h); omega
   congr 1
   by_cases c:p.len<=64
   . rw[decide_eq_true (show((p.len:Int)<=64)by omega),decide_eq_true ⟨h,c⟩]
   . rw[decide_eq_false (show ¬((p.len:Int)<=64)by omega),decide_eq_false (λx=>c x.2)]
 . have h:¬p.len=q.len:=by
     intro e; rw[e]at h; simp at h
   rw[decide_eq_false (λx=>h x.1)]
abbrev fit(a b:List Cq):Prop:=a.length=b.length/\a.length<=64
theorem Times_spec{V:View}{p q:Sl}{a b:List Cq}{S:Nat}(hp:NumsAt V p a)(hq:NumsAt V q b)(hf:fit a b)(hA:∀i,i<a.length->(nth a i).sz<=S)(hB:∀i,i<b.length->(nth b i).sz<=S)(hS:S<=2^30) :
 CallV Try.prog n_transform_Times_num_Num_ #[p.v,q.v] V λv V'=>∃r:Sl,v = .tuple #[r.v,.int .i64 0]/\NumsAt V' r (timesF a b):=by
 have hpl:=hp.len
 have hql:=hq.len
 obtain⟨h1,h2⟩:=hf
 refine transform_Times_num_Num__vc p q V _ (λ_ x V'=>∃k:Nat,x.t17=(k:Int)/\k<=a.length/\OptIn numC V' x.o14 a.length (seqF (λi=>nth a i*nth b i) k)) (λ_ x _=>(a.length-x.t17).toNat)
  ((listed_spec p q).mono λv V1 l1 hv=>⟨_,hv,λh => ?_,λ_ => ?_⟩)
 . rw[hpl,hql,decide_eq_true ⟨h1,h2⟩]at h; simp at h
 rw[hpl,hql,Int.toNat_natCast]
 refine⟨⟨by omega,by omega,by omega,by omega⟩,⟨0,rfl,by omega,OptIn.start numC V1 _ _⟩,?_⟩
 rintro⟨t,o⟩ V2 l2 ⟨k,rfl,hk,ho⟩
 dsimp only at ho ⊢
 refine⟨λhlt => ?_,λhge b' V3 l3 hb => ?_⟩
 . simp only[decide_eq_true_eq]at hlt
   have hk':k<a.length:=by omega
   obtain⟨hb3,x3,hx3,hs3,hn3⟩:=(hp.le (View.le_trans l1 l2)).get (t:=(k:Int)) (by omega) (by rw[Int.toNat_natCast]; exact hk')
   obtain⟨hb4,x4,hx4,hs4,hn4⟩:=(hq.le (View.le_trans l1 l2)).get (t:=(k:Int)) (by omega) (by rw[Int.toNat_natCast]; omega)
   rw[hpl]at hb3
   rw[hql]at hb4
   rw[Int.toNat_natCast]at hn3 hn4
   have s1:=hA k hk'
   have s2:=hB k (by omega)
   refine⟨hb3,x3,hx3,hs3,hb4,x4,hx4,hs4,(Num_Mul_spec hn3 hn4 (by omega) (by omega)).mono λv V3 l3 ⟨r,hv,hr⟩=>⟨r,hv,⟨by omega,by omega⟩,?_⟩⟩
   rw[Int.toNat_natCast,i64w (by omega) (by omega)]
   have ho3:=ho.le (numC.le l3)
   exact⟨ho3.room hk',⟨k+1,by omega,by omega,ho3.next hk' (q_len5 r) ⟨r,rfl,hr⟩⟩,by omega⟩
 . simp only[decide_eq_false_iff_not]at hge
   have hk':k=a.length:=by omega
   subst hk'
   exact⟨_,rfl,ListAt.of_made (zs:=timesF a b) hb ((ho.le (numC.le l3)).all λp hp=>seqF_all hp) (by simp[timesF])⟩
theorem Convolve_spec{V:View}{p q:Sl}{a b:List Cq}{S:Nat}(hp:NumsAt V p a)(hq:NumsAt V q b)(hf:fit a b)(hA:∀i,i<a.length->(nth a i).sz<=S)(hB:∀i,i<a.length->(nth b i).sz<=S)(hS:S<=2^30) :
 CallV Try.prog n_transform_Convolve_num_Num_ #[p.v,q.v] V λv V'=>∃r:Sl,v = .tuple #[r.v,.int .i64 0]/\NumsAt V' r (convF a b):=by
 have hpl:=hp.len
 have hql:=hq.len
 obtain⟨h1,h2⟩:=hf
 refine transform_Convolve_num_Num__vc p q V _ (λ_ x V'=>∃k:Nat,x.t21=(k:Int)/\k<=a.length/\OptIn numC V' x.o18 a.length (seqF (λj=>convS a b j (a.length-1)) k)) (λ_ x _=>(a.length-x.t21).toNat)
  (λc x V'=>∃k i:Nat,c.t21=(k:Int)/\x.t10=(i:Int)/\1<=i/\i<=a.length/\NumAt V' x.o9 (convS a b k (i-1))/\OptIn numC V' x.o18 a.length (seqF (λj=>convS a b j (a.length-1)) k)) (λ_ x _=>(a.length-x.t10).toNat)
  ((listed_spec p q).mono λv V1 l1 hv=>⟨_,hv,λh => ?_,λ_ => ?_⟩)
 . rw[hpl,hql,decide_eq_true ⟨h1,h2⟩]at h; simp at h
 rw[hpl,hql,Int.toNat_natCast]
 refine⟨⟨by omega,by omega,by omega,by omega⟩,⟨0,rfl,by omega,OptIn.start numC V1 _ _⟩,?_⟩
 rintro⟨t,o⟩ V2 l2 ⟨k,rfl,hk,ho⟩
 dsimp only at ho ⊢
 have hp2:=hp.le (View.le_trans l1 l2)
 have hq2:=hq.le (View.le_trans l1 l2)
 refine⟨λhlt => ?_,λhge b' V3 l3 hb => ?_⟩
 . simp only[decide_eq_true_eq]at hlt
   have hk':k<a.length:=by omega
   obtain⟨hb3,x3,hx3,hs3,hn3⟩:=hp2.get (t:=0) (by omega) (by show 0<_; omega)
   obtain⟨hb4,x4,hx4,hs4,hn4⟩:=hq2.get (t:=(k:Int)) (by omega) (by rw[Int.toNat_natCast]; omega)
   rw[hpl]at hb3
   rw[hql]at hb4
   rw[Int.toNat_natCast]at hn4
   have hn3:NumAt V2 x3 (nth a 0):=hn3
   have s1:=hA 0 (by omega)
   have s2:=hB k hk'
   refine⟨hb3,x3,hx3,hs3,hb4,x4,hx4,hs4,(Num_Mul_spec hn3 hn4 (by omega) (by omega)).mono λv V3 l3 ⟨r,hv,hr⟩=>⟨r,hv,⟨k,1,rfl,rfl,by omega,by omega,hr,ho.le (numC.le l3)⟩,?_⟩⟩
   rintro⟨ti,sm,o5⟩ V4 l4 ⟨k',i,hkk,rfl,hi1,hi,hsm,ho5⟩
   obtain rfl:k'=k:=by have:(k:Int)=(k':Int):=hkk; omega
   dsimp only at hsm ho5 ⊢
   refine⟨λhlt2 => ?_,λhge2 => ?_⟩
   . simp only[decide_eq_true_eq]at hlt2
     have hi':i<a.length:=by omega
     have hq5:(k'+a.length-i)%a.length<a.length:=Nat.mod_lt _ (by omega)
     rw[convIdx hi' hk' (by omega)]
     obtain⟨hb5,x5,hx5,hs5,hn5⟩:=(hp2.le (View.le_trans l3 l4)).get (t:=(i:Int)) (by omega) (by rw[Int.toNat_natCast]; exact hi')
     obtain⟨hb6,x6,hx6,hs6,hn6⟩:=(hq2.le (View.le_trans l3 l4)).get (t:=(((k'+a.length-i)%a.length:Nat):Int)) (by omega) (by rw[Int.toNat_natCast]; omega)
     rw[hpl]at hb5
     rw[hql]at hb6
     rw[Int.toNat_natCast]at hn5 hn6
     have s5:=hA i hi'
     have s6:=hB _ hq5
     have s7:=Cq.sz_mul (nth a i) (nth b ((k'+a.length-i)%a.length))
     have s8:=convS_sz h1.symm hA hB hk' (i-1) (by omega)
     have s9:(i-1+1)*(2*S+2)<=64*(2*S+2):=Nat.mul_le_mul_right _ (by omega)
     refine⟨hb5,x5,hx5,hs5,by omega,hb6,x6,hx6,hs6,(Num_Mul_spec hn5 hn6 (by omega) (by omega)).mono λv V5 l5 ⟨r5,hv,hr5⟩=>⟨r5,hv,?_⟩⟩
     refine(Num_Add_spec (hsm.le l5) hr5 (by omega) (by omega)).mono λv V6 l6 ⟨r6,hv,hr6⟩=>⟨r6,hv,?_⟩
     rw[i64w (by omega) (by omega)]
     refine⟨⟨k',i+1,rfl,by omega,by omega,by omega,?_,ho5.le (numC.le (View.le_trans l5 l6))⟩,by omega⟩
     have e:i+1-1=(i-1)+1:=by omega
     have e2:i-1+1=i:=by omega
     rw[e,convS,e2]; exact hr6
   . simp only[decide_eq_false_iff_not]at hge2
     obtain rfl:i=a.length:=by omega
     rw[Int.toNat_natCast,i64w (by omega) (by omega)]
     exact⟨⟨by omega,by omega⟩,ho5.room hk',⟨k'+1,by omega,by omega,ho5.next hk' (q_len5 sm) ⟨sm,rfl,hsm⟩⟩,by omega⟩
 . simp only[decide_eq_false_iff_not]at hge
   have hk':k=a.length:=by omega
   subst hk'
   exact⟨_,rfl,ListAt.of_made (zs:=convF a b) hb ((ho.le (numC.le l3)).all λp hp=>seqF_all hp) (by simp[convF])⟩
theorem Energy_spec{V:View}{s:Sl}{zs:List Cq}{S:Nat}(h:NumsAt V s zs)(hn:zs.length<=64)(hS:∀i,i<zs.length->(nth zs i).sz<=S)(hsz:S<=2^30) :
 CallV Try.prog n_transform_Energy_num_Num_ #[s.v] V λv V'=>∃r:NumV,v = .tuple #[r.val,.int .i64 0]/\NumAt V' r (energyI zs zs.length):=by
 have hl:=h.len
 refine transform_Energy_num_Num__vc s V _ (λ_ x V'=>∃k:Nat,x.t18=(k:Int)/\k<=zs.length/\NumAt V' x.o4 (energyI zs k)) (λ_ x _=>(zs.length-x.t18).toNat) ?_
 rw[hl]
 refine⟨λh=>absurd h (by simp; omega),λ_=>⟨λh0 => ?_,λh0=>⟨⟨0,rfl,by omega,NumAt.zero V⟩,?_⟩⟩⟩
 . have h0:zs.length=0:=by have:(zs.length:Int)=0:=(by simpa using h0); omega
   refine(of_spec (p:=0) (q:=1) (by decide) (by decide) (by decide) (by decide) (by decide)).mono λv V3 l3 ⟨r2,hv,h2⟩=>⟨r2,hv,r2,rfl,?_⟩
   rw[zeroQ_eq]at h2
   unfold energyI
   rw[if_pos h0]; exact h2
 rintro⟨t,o2,o⟩ V2 l2 ⟨k,rfl,hk,ho⟩
 dsimp only at ho ⊢
 refine⟨λhlt => ?_,λhge => ?_⟩
 . simp only[decide_eq_true_eq]at hlt
   have hk':k<zs.length:=by omega
   obtain⟨hb3,x3,hx3,hs3,hn3⟩:=(h.le l2).get (t:=(k:Int)) (by omega) (by rw[Int.toNat_natCast]; exact hk')
   rw[hl]at hb3
   rw[Int.toNat_natCast]at hn3
   have s1:=hS k hk'
   have s2:=Cq.sz_conj (nth zs k)
   have s3:=Cq.sz_mul (nth zs k) (nth zs k).conj
   have s4:=energyI_sz hS hk
   have s5:(k+1)*(2*S+2)<=65*(2*S+2):=Nat.mul_le_mul_right _ (by omega)
   rw[i64w (by omega) (by omega)]
   refine⟨hb3,x3,hx3,hs3,(Num_Conj_spec hn3).mono λv V3 l3 ⟨r3,hv,hr3⟩=>⟨r3,hv,?_⟩⟩
   refine(Num_Mul_spec (hn3.le l3) hr3 (by omega) (by omega)).mono λv V4 l4 ⟨r4,hv,hr4⟩=>⟨r4,hv,λh0 => ?_,λh0 => ?_⟩
   . have h0:k=0:=by have:(k:Int)=0:=(by simpa using h0); omega
     subst h0
     exact⟨⟨0+1,by omega,by omega,hr4⟩,by omega⟩
   . have h0:k≠0:=by intro e; subst e; simp at h0
     refine(Num_Add_spec (ho.le (View.le_trans l3 l4)) hr4 (by omega) (by omega)).mono λv V5 l5 ⟨r5,hv,hr5⟩=>⟨r5,hv,⟨k+1,by omega,by omega,?_⟩,by omega⟩
     rw[<-energyI_step zs h0]; exact hr5
 . simp only[decide_eq_false_iff_not]at hge
   have hk':k=zs.length:=by omega
   subst hk'
   exact⟨o,rfl,ho⟩
theorem plus_spec{V:View}{p q:Sl}{a b:List Cq}(hp:NumsAt V p a)(hq:NumsAt V q b)(hn:a.length<=2^32)(hb:1<=b.length)(hA:∀i,i<a.length->(nth a i).sz<=2^40)(hB:∀i,i<b.length->(nth b i).sz<=2^40) :
 CallV Try.prog n_waveportlaw07_plus #[p.v,q.v] V λv V'=>∃r:Sl,v=r.v/\NumsAt V' r (plusF a b):=by
 have hpl:=hp.len
 have hql:=hq.len
 refine waveportlaw07_plus_vc p q V _ (λ_ x V'=>0<=x.t12/\x.t12<=a.length/\NumsIn V' x.o9 (filled a.length x.t12.toNat λi=>nth a i+nth b (i%b.length))) (λ_ x _=>a.length-x.t12.toNat) ⟨⟨by omega,by omega,by omega,by omega⟩,⟨Int.le_refl 0,Int.natCast_nonneg _,?_⟩,?_⟩
 . rw[Int.toNat_natCast,hpl]
   show NumsIn V _ (filled a.length 0 _)
   rw[filled_zero]; exact NumsIn.zeros _ _
 rintro⟨t,o⟩ V1 l1 ⟨h0,ht,ho⟩
 dsimp only at h0 ht ho ⊢
 rw[Int.toNat_natCast,hpl,hql]
 refine⟨λhlt => ?_,λhge => ?_⟩
 . simp only[decide_eq_true_eq]at hlt
   have hk:t.toNat<a.length:=by omega
   have hfl:(filled a.length t.toNat λi=>nth a i+nth b (i%b.length)).length=a.length:=filled_length (by omega) _
   have e1:IntKind.i64.wrap (t+1)=t+1:=i64w (by omega) (by omega)
   have e2:(t+1).toNat=t.toNat+1:=by omega
   have hml:t.toNat%b.length<b.length:=Nat.mod_lt _ (by omega)
   have hm:Int.tmod t (b.length:Int)=((t.toNat%b.length:Nat):Int):=by
    rw[Int.tmod_eq_emod_of_nonneg h0]
    conv=>lhs; rw[<-Int.toNat_of_nonneg h0]
    rfl
   rw[hm]
   obtain⟨hb3,x3,hx3,hs3,hn3⟩:=(hp.le l1).get h0 hk
   obtain⟨hb4,x4,hx4,hs4,hn4⟩:=(hq.le l1).get (t:=((t.toNat%b.length:Nat):Int)) (Int.natCast_nonneg _) (by rw[Int.toNat_natCast]; exact hml)
   rw[hpl]at hb3
   rw[hql]at hb4
   rw[Int.toNat_natCast]at hn4
   refine⟨hb3,x3,hx3,hs3,by omega,hb4,x4,hx4,hs4,(Num_Add_spec hn3 hn4 (hA _ hk) (hB _ hml)).mono λv V2 l2 ⟨r,hv,hr⟩=>⟨r,hv,⟨h0,hlt⟩,Cells.room ho (by rw[hfl]; exact hk),?_⟩⟩
   rw[e1]
   refine⟨⟨by omega,by omega,?_⟩,by omega⟩
   rw[e2,<-filled_set hk]
   exact(ho.le l2).set (by rw[hfl]; exact hk) hr
 . simp only[decide_eq_false_iff_not]at hge
   intro b' V3 l3 hb'
   have e:t.toNat=a.length:=by omega
   rw[e,filled_all]at ho
   exact⟨_,rfl,ListAt.of_made (zs:=plusF a b) hb' (ho.le l3) (by rw[plusF_length])⟩
def Mr(b:Nat)(la:List Value):View:=View.upd (λ_=>none) b la.toArray
def RegA(N:Nat)(r:Sl)(M V:View)(A:List Cq):Prop:=∃(b:Nat) (la:List Value),M=Mr b la/\r=⟨some ⟨b,0,none⟩,N,N⟩/\M.apart V/\Cells 5 numC V la A/\A.length=N
theorem RegA.at{N:Nat}{r:Sl}{M V:View}{A:List Cq}(h:RegA N r M V A):NumsAt (View.or M V) r A:=by
 obtain⟨b,la,rfl,rfl,ap,hc,hl⟩:=h
 exact ListAt.of_made (View.or_left (by simp[Mr,View.upd])) (hc.imp (numC.le (View.le_or ap))) hl.symm
theorem RegA.le{N:Nat}{r:Sl}{M V V':View}{A:List Cq}(h:RegA N r M V A)(l:View.le V V')(ap:M.apart V'):RegA N r M V' A:=by
 obtain⟨b,la,e1,e2,_,hc,hl⟩:=h
 exact⟨b,la,e1,e2,ap,hc.imp (numC.le l),hl⟩
theorem RegA.get{N:Nat}{r:Sl}{M V:View}{A:List Cq}(h:RegA N r M V A){i:Nat}(hi:i<N) :
 ∃x:NumV,has2 M V (Option.map (λq=>Addr.add q (i*5)) r.a) x.val.cells.toList/\Option.isSome (Option.map (λq=>Addr.add q (i*5)) r.a)=true/\NumAt V x (nth A i):=by
 obtain⟨b,la,rfl,rfl,ap,hc,hl⟩:=h
 have hL:ListAt 5 (λ_ x z=>numC V x z) (Mr b la) ⟨some ⟨b,0,none⟩,N,N⟩ A:=ListAt.of_made (o:=la) (b:=b) (by simp[Mr,View.upd]) (Cells.imp (P:=numC) (V:=V) (P':=λ_ x z=>numC V x z) (V':=Mr b la) (λ_ _ h=>h) hc) hl.symm
 obtain⟨_,x,⟨n,e,hn⟩,_,h1,h2⟩:=ListAt.get hL (t:=(i:Int)) (by omega) (z:=nth A i) (by rw[Int.toNat_natCast]; exact nth_get (by omega))
 rw[Int.toNat_natCast]at h1 h2
 exact⟨n,.inl (e▸h1),h2,hn⟩
theorem RegA.put{N:Nat}{r:Sl}{M V:View}{A:List Cq}(h:RegA N r M V A){i:Nat}(hi:i<N){x:NumV}{z:Cq}(hx:NumAt V x z) :
 ∃(b c:Nat) (l:List Value),(Option.map (λq=>Addr.add q (i*5)) r.a)=some (Addr.mk b c none)/\M b=some l.toArray/\c+5<=l.length /\
  RegA N r (View.upd M b (setL l c [.bool x.re.neg,x.re.mag.v,.bool x.im.neg,x.im.mag.v,x.under.v]).toArray) V (A.set i z):=by
 obtain⟨b,la,rfl,rfl,ap,hc,hl⟩:=h
 have room:=hc.room (i:=i) (by omega)
 have hadd:Option.map (λq=>Addr.add q (i*5)) (some (Addr.mk b 0 none))=some (Addr.mk b (0+i*5) none):=by
  by_cases e:i=0
  . simp[Addr.add,e]
  . have:¬i*5=0:=by omega
    simp[Addr.add,this]
 refine⟨b,0+i*5,la,hadd,by simp[Mr,View.upd],room,b,_,?_,rfl,?_,hc.set0 (by omega) rfl ⟨x,rfl,hx⟩,by rw[List.length_set]; exact hl⟩
 . funext k
   simp only[Mr,View.upd]
   split<;>rfl
 . intro b' cs e
   by_cases c:b'=b
   . subst c; exact ap b' la.toArray (by simp[Mr,View.upd])
   . simp[Mr,View.upd,c]at e
def mixed(A W:List Cq)(s t:Nat):List Cq:=(List.range A.length).map λk=>if k<t then nth A k*nth W ((k*s)%A.length)else nth A k
theorem mixed_length(A W:List Cq)(s t:Nat):(mixed A W s t).length=A.length:=by simp[mixed]
theorem mixed_nth{A W:List Cq}{s t k:Nat}(h:k<A.length):nth (mixed A W s t) k=if k<t then nth A k*nth W ((k*s)%A.length)else nth A k:=nth_map h _
theorem mixed_zero(A W:List Cq)(s:Nat):mixed A W s 0=A:=by
 unfold mixed
 apply List.ext_getElem?
 intro k
 by_cases h:k<A.length
 . rw[nth_get h]; simp[h]
 . rw[List.getElem?_eq_none (by simp; omega),List.getElem?_eq_none (by omega)]
theorem mixed_all(A W:List Cq)(s:Nat):mixed A W s A.length=turnS A W s:=by
 unfold mixed turnS
 refine List.map_congr_left λk hk => ?_
 rw[if_pos (by simpa using hk)]
theorem mixed_step{A W:List Cq}{s t:Nat}(h:t<A.length):(mixed A W s t).set t (nth A t*nth W ((t*s)%A.length))=mixed A W s (t+1):=by
 apply List.ext_getElem?
 intro k
 by_cases hk:k<A.length
 . rw[List.getElem?_set]
   by_cases e:t=k
   . subst e
     rw[if_pos rfl,if_pos (by rw[mixed_length]; exact h),nth_get (by rw[mixed_length]; exact h),mixed_nth h,if_pos (by omega)]
   . rw[if_neg e,nth_get (by rw[mixed_length]; exact hk),nth_get (by rw[mixed_length]; exact hk),mixed_nth hk,mixed_nth hk]
     by_cases c:k<t
     . rw[if_pos c,if_pos (by omega)]
     . rw[if_neg c,if_neg (by omega)]
 . rw[List.getElem?_eq_none (by rw[List.length_set,mixed_length]; omega),List.getElem?_eq_none (by rw[mixed_length]; omega)]
theorem root_prog{n t:Nat}(b:Int)(ht:t<n)(hn:n<=4):Int.tmod (IntKind.i64.wrap ((t:Int)*(Int.tmod (IntKind.i64.wrap ((Int.tmod b (n:Int))+(n:Int))) (n:Int)))) (n:Int)=(((t*modB b n)%n:Nat):Int):=by
 have h0:(0:Int)<n:=by omega
 have hb:=modB_lt b (n:=n) (by omega)
 have t1:Int.tmod b (n:Int)=(modB b n:Int)\/Int.tmod b (n:Int)=(modB b n:Int)-n:=by
  have h1:=Int.emod_nonneg b (b:=(n:Int)) (by omega)
  have h2:=Int.emod_lt_of_pos b h0
  rw[Int.tmod_eq_emod]
  unfold modB
  split<;>omega
 have e1:Int.tmod (IntKind.i64.wrap ((Int.tmod b (n:Int))+(n:Int))) (n:Int)=(modB b n:Int):=by
  rcases t1 with t|t<;>rw[t]
  . rw[i64w (by omega) (by omega),Int.tmod_eq_emod_of_nonneg (by omega),Int.add_emod_right,Int.emod_eq_of_lt (by omega) (by omega)]
  . rw[i64w (by omega) (by omega),Int.tmod_eq_emod_of_nonneg (by omega),show(modB b n:Int)-n+n=(modB b n:Int)by omega,Int.emod_eq_of_lt (by omega) (by omega)]
 rw[e1]
 have hm:t*modB b n<=4*4:=Nat.mul_le_mul (by omega) (by omega)
 have e2:(t:Int)*(modB b n:Int)=((t*modB b n:Nat):Int):=(Int.natCast_mul _ _).symm
 rw[e2,i64w (by omega) (by omega),Int.tmod_eq_emod_of_nonneg (by omega),Int.natCast_emod]
theorem lt_ofD{t N:Nat}(h:decide ((t:Int)<(N:Int))=true):t<N:=by have:=of_decide_eq_true h; omega
theorem eq_ofD{t N:Nat}(ht:t<=N)(h:decide ((t:Int)<(N:Int))=false):N=t:=by have:=of_decide_eq_false h; omega
theorem t_next{t N:Nat}(h:t<N)(hN:N<=4):IntKind.i64.wrap ((t:Int)+1)=((t+1:Nat):Int):=by rw[i64w (by omega) (by omega)]; rfl
theorem t_less{t N:Nat}(h:t<N):N-Int.toNat ((t+1:Nat):Int)<N-Int.toNat (t:Int):=by omega
set_option maxHeartbeats 4000000 in
theorem TransformLaws_spec{V:View}{s o:Sl}{rs ps:List RatV}{p2 p3:Int}(h:RatsAt V s rs)(hr:rs.length<2^64)(k:RatsAt V o ps)(kr:ps.length<2^64)(a2:0<=p2) :
 CallV Try.prog n_waveportlaw07_TransformLaws #[s.v,o.v,.int .u8 p2,.int .i64 p3] V λv _=>v = .bool true:=by
 obtain⟨m,hme⟩:∃m,m=sizeM p2:=⟨_,rfl⟩
 have hm:m<=2:=by rw[hme]; exact sizeM_le a2
 obtain⟨N,hN⟩:∃N,N=2^m:=⟨_,rfl⟩
 obtain⟨X,hX⟩:∃X,X=exactQ rs N:=⟨_,rfl⟩
 obtain⟨Y,hY⟩:∃Y,Y=exactQ ps N:=⟨_,rfl⟩
 obtain⟨W,hW⟩:∃W,W=onesF m:=⟨_,rfl⟩
 obtain⟨A,hA0⟩:∃A,A=fwdF X W:=⟨_,rfl⟩
 obtain⟨B,hB0⟩:∃B,B=fwdF Y W:=⟨_,rfl⟩
 obtain⟨S,hS⟩:∃S,S=modB p3 N:=⟨_,rfl⟩
 have N4:N<=4:=by rw[hN]; exact(Nat.pow_le_pow_right (by omega) hm:2^m<=2^2)
 have N1:1<=N:=by rw[hN]; exact pow1 m
 have lX:X.length=N:=by rw[hX]; exact exactQ_length _ _
 have lY:Y.length=N:=by rw[hY]; exact exactQ_length _ _
 have lW:W.length=N:=by rw[hW,hN]; exact onesF_length hm
 have lA:A.length=N:=by rw[hA0,fwdF_length,lX]
 have lB:B.length=N:=by rw[hB0,fwdF_length,lY]
 have lenN:lenB N=true:=by rw[hN]; exact lenB_pow m (by simp; omega)
 have sX:∀i,i<X.length->(nth X i).sz<=5:=λi hi=>by rw[lX]at hi; rw[hX]; exact exactQ_sz rs N i hi
 have sY:∀i,i<Y.length->(nth Y i).sz<=5:=λi hi=>by rw[lY]at hi; rw[hY]; exact exactQ_sz ps N i hi
 have sW:∀i,i<N->(nth W i).sz<=4:=λi hi=>by rw[hW]; exact onesF_sz hm i (by rw[<-hN]; exact hi)
 have fz:∀ {zs:List Cq} {T:Nat},zs.length=N->(∀i,i<zs.length->(nth zs i).sz<=T)->∀i,i<N->(nth (fwdF zs W) i).sz<=4*(T+4+2):=λ{zs T} hl hT i hi=>by
  have h1:=fwdF_sz zs W T 4 (by rw[lW,hl]) hT (by rw[hl]; exact sW) i (by rw[hl]; exact hi)
  have:zs.length*(T+4+2)<=4*(T+4+2):=Nat.mul_le_mul_right _ (by omega)
  omega
 have sA:∀i,i<N->(nth A i).sz<=44:=by rw[hA0]; exact fz lX sX
 have sB:∀i,i<N->(nth B i).sz<=44:=by rw[hB0]; exact fz lY sY
 have x2:X.length=2^m:=by rw[lX,hN]
 have y2:Y.length=2^m:=by rw[lY,hN]
 have ep:fwdF (plusF X Y) W=plusF A B:=by rw[hA0,hB0,hW]; exact law_plus hm x2 y2
 have ec:convF X Y=convF Y X:=law_conv hm x2 y2
 have et:fwdF (convF X Y) W=timesF A B:=by rw[hA0,hB0,hW]; exact law_times hm x2 y2
 have ee:energyI A N=energyI X N*⟨((N:Int):Rat),0⟩:=by rw[hA0,hW,hN]; exact law_energy hm x2
 have es:fwdF (shiftF X p3) W=turnS A W S:=by
  rw[hA0,hS,hW,shiftF_S,lX]
  exact law_shift' hm x2 (by rw[<-hN]; exact modB_lt p3 (by omega))
 have ntz:((N:Nat):Int)≠0:=by omega
 have b32:∀ {k:Nat},k=N->k<=2^32:=λh=>by omega
 have b64:∀ {k:Nat},k=N->k<=64:=λh=>by omega
 have b1:∀ {k:Nat},k=N->1<=k:=λh=>by omega
 have sWk:∀ {k:Nat},k=N->∀i,i<k->(nth W i).sz<=4:=λh i hi=>sW i (by omega)
 have sXk:∀ {k:Nat},k=N->∀i,i<k->(nth X i).sz<=5:=λh i hi=>sX i (by omega)
 have sYk:∀ {k:Nat},k=N->∀i,i<k->(nth Y i).sz<=5:=λh i hi=>sY i (by omega)
 have sAk:∀ {k:Nat},k=N->∀i,i<k->(nth A i).sz<=44:=λh i hi=>sA i (by omega)
 have sBk:∀ {k:Nat},k=N->∀i,i<k->(nth B i).sz<=44:=λh i hi=>sB i (by omega)
 have w40:∀ {a b:Nat},b<=1000->a<=b->a<=2^40:=λh g=>Nat.le_trans g (Nat.le_trans h (by decide))
 have fAB:fit A B:=⟨by omega,by omega⟩
 have fXY:fit X Y:=⟨by omega,by omega⟩
 have fYX:fit Y X:=⟨by omega,by omega⟩
 have nI : -9223372036854775808<=(N:Int)/\(N:Int)<=9223372036854775807:=by omega
 have zi:(⟨((N:Int):Rat),0⟩:Cq).sz<=64:=by
  refine(Rep.ofInt (N:Int)).sz (k:=64) ?_ (by decide) (by decide)
  exact bl_le_of_lt (by omega)
 have z14:=energyI_sz (k:=N) sX (by omega)
 have z16:=energyI_sz (k:=N) (zs:=A) (S:=44) (sAk lA) (by omega)
 have n14:(N+1)*(2*5+2)<=5*(2*5+2):=Nat.mul_le_mul_right _ (by omega)
 have n16:(N+1)*(2*44+2)<=5*(2*44+2):=Nat.mul_le_mul_right _ (by omega)
 have zm:=Cq.sz_mul (energyI X N) ⟨((N:Int):Rat),0⟩
 have t14:(energyI X N).sz<=2^40:=by omega
 have t16:(energyI A N).sz<=2^40:=by omega
 have ti:(⟨((N:Int):Rat),0⟩:Cq).sz<=2^40:=by omega
 have tm:(energyI X N*⟨((N:Int):Rat),0⟩).sz<=2^40:=by omega
 clear z14 z16 n14 n16 zm zi
 have lP:(plusF X Y).length=N:=by rw[plusF_length,lX]
 have lQ:(plusF A B).length=N:=by rw[plusF_length,lA]
 have sP:∀i,i<(plusF X Y).length->(nth (plusF X Y) i).sz<=12:=λi hi=>by
  rw[lP]at hi
  have e:nth (plusF X Y) i=nth X i+nth Y (i%Y.length):=nth_map (by omega) _
  rw[e]
  have g1:=sX i (by omega)
  have g2:=sY (i%Y.length) (Nat.mod_lt _ (by omega))
  have:=Cq.sz_add (nth X i) (nth Y (i%Y.length))
  omega
 have sQ:∀i,i<(plusF A B).length->(nth (plusF A B) i).sz<=2^40:=λi hi=>by
  rw[lQ]at hi
  rw[<-ep]
  exact Nat.le_trans (fz lP sP i hi) (by decide)
 have lC:(convF X Y).length=N:=by rw[convF_length,lX]
 have lT:(timesF A B).length=N:=by rw[timesF_length,lA]
 have sC:∀i,i<(convF X Y).length->(nth (convF X Y) i).sz<=48:=λi hi=>by
  rw[lC]at hi
  have e:nth (convF X Y) i=convS X Y i (X.length-1):=nth_map (by omega) _
  rw[e]
  have g:=convS_sz (a:=X) (b:=Y) (S:=5) (by omega) sX (sYk lX) (j:=i) (by omega) (X.length-1) (by omega)
  have:(X.length-1+1)*(2*5+2)<=4*(2*5+2):=Nat.mul_le_mul_right _ (by omega)
  omega
 have sT:∀i,i<(timesF A B).length->(nth (timesF A B) i).sz<=2^40:=λi hi=>by
  rw[lT]at hi
  rw[<-et]
  exact Nat.le_trans (fz lC sC i hi) (by decide)
 have lS:(shiftF X p3).length=N:=by rw[shiftF_length,lX]
 have sS:∀i,i<(shiftF X p3).length->(nth (shiftF X p3) i).sz<=5:=λi hi=>by
  rw[lS]at hi
  rw[shiftF_nth (by omega)]
  refine sX _ ?_
  have:=modB_lt p3 (n:=X.length) (by omega)
  unfold preP
  split<;>omega
 have lV:(turnS A W S).length=N:=by rw[<-es,fwdF_length,lS]
 have sV:∀i,i<(turnS A W S).length->(nth (turnS A W S) i).sz<=2^40:=λi hi=>by
  rw[lV]at hi
  rw[<-es]
  exact Nat.le_trans (fz lS sS i hi) (by decide)
 refine waveportlaw07_TransformLaws_vc s o p2 p3 V _
  (λc _ V'=>RegA N c.t14 c.o0 V' A) (λc x V'=>RegA N c.t14 x.o0 V' A)
  (λc x V'=>RegA N c.t14 x.o0 V' A/\NumsAt (View.or x.o0 V') c.t28 (timesF A B))
  (λc x V'=>∃t:Nat,x.t175=t/\t<=N/\RegA N c.t14 x.o0 V' (mixed A W S t)) (λ_ x _=>N-x.t175.toNat) ?_
 refine CallR.aside (exact_spec2 h hr a2) λv V1 l1 _ ⟨r1,r2,hv,h1,h2⟩=>⟨r1,r2,hv,?_⟩
 refine CallR.aside (exact_spec2 (RatsAt.le l1 k) kr a2) λv V2 l2 _ ⟨r3,r4,hv,h3,_⟩=>⟨r3,r4,hv,?_⟩
 rw[<-hme,<-hN,<-hX]at h1
 rw[<-hme,<-hW]at h2
 rw[<-hme,<-hN,<-hY]at h3
 clear hX hY hme
 have e1:r1.len=N:=by rw[h1.len,lX]
 refine CallR.joins (Forward_owned 5 4 (by rw[lX]; exact lenN) (by rw[lW,lX]) (h1.le l2) (h2.le l2) sX (sWk lX) (by decide)) λb n cap l rest V3 l3 _ _ hb ⟨hn,hc,hrest,hin⟩ => ?_
 have l0:l≠[]:=λe=>by subst e; have:=Cells.length hin; rw[fwdF_length,lX]at this; simp at this; omega
 rw[if_neg l0]
 rw[<-hA0]at hin
 subst hrest; subst hc
 have en:N=cap:=by rw[hn,fwdF_length,lX]
 subst en
 have hb : V3 b = none := by rcases hb with g | g
                             . exact g
                             . exact absurd g l0
 refine⟨⟨some ⟨b,0,none⟩,N,N⟩,0,by unfold ownRes lstA; rw[if_neg (by omega)]; rfl,?_⟩
 have apM:(Mr b l).apart V3:=λb' cs e=>by
  by_cases c:b'=b
  . subst c; exact hb
  . simp[Mr,View.upd,c]at e
 have hA:RegA N ⟨some ⟨b,0,none⟩,N,N⟩ (Mr b l) V3 A:=⟨b,l,rfl,rfl,apM,hin,lA⟩
 show CallR _ _ _ (Mr b l) _ _
 generalize hr5:(⟨some ⟨b,0,none⟩,N,N⟩:Sl)=r5 at hA ⊢
 have e5:r5.len=N:=by rw[<-hr5]
 clear hr5
 generalize Mr b l=M at hA ⊢
 clear hin hb l0 apM
 have L3:=View.le_trans l2 l3
 refine CallR.aside (Forward_spec 5 4 (by rw[lY]; exact lenN) (by rw[lW,lY]) (h3.le l3) (h2.le L3) sY (sWk lY) (by decide)) λv V4 l4 ap4 ⟨r7,hv,h7⟩=>⟨r7,0,hv,?_⟩
 rw[<-hB0]at h7
 have e7:r7.len=N:=by rw[h7.len,lB]
 replace hA:=hA.le l4 ap4
 replace h1:=h1.le (View.le_trans L3 l4)
 replace h2:=h2.le (View.le_trans L3 l4)
 replace h3:=h3.le (View.le_trans l3 l4)
 rw[e1,e5,e7]
 refine⟨⟨λc=>absurd c (by simp),λ_=>⟨λc=>absurd c (by simp),λ_=>⟨λc=>absurd c (by simp),λ_=>⟨λc=>absurd c (by simp),λ_=>hA⟩⟩⟩⟩,?_⟩
 intro x1 V5 l5 hA
 replace h1:=h1.le l5
 replace h2:=h2.le l5
 replace h3:=h3.le l5
 replace h7:=h7.le l5
 refine CallR.aside (plus_spec h1 h3 (b32 lX) (b1 lY) (λi hi=>Nat.le_trans (sX i hi) (by decide)) (λi hi=>Nat.le_trans (sY i hi) (by decide))) λv V10 l10 ap ⟨r9,hv,h9⟩=>⟨r9,hv,?_⟩
 replace hA:=hA.le l10 ap
 refine CallR.aside (Forward_spec 12 4 (by rw[lP]; exact lenN) (by rw[lW,lP]) h9 (h2.le l10) sP (sWk lP) (by decide)) λv V11 l11 ap ⟨r10,hv,h10⟩=>⟨r10,0,hv,?_⟩
 replace hA:=hA.le l11 ap
 have h7':NumsAt (View.or M V11) r7 B:=h7.le (View.le_trans (View.le_trans l10 l11) (View.le_or ap))
 refine CallR.shown (plus_spec hA.at h7' (b32 lA) (b1 lB) (λi hi=>Nat.le_trans (sAk lA i hi) (by decide)) (λi hi=>Nat.le_trans (sBk lB i hi) (by decide))) λv V2' V12 l12 e ap' ⟨r12,hv,h12⟩=>⟨r12,hv,?_⟩
 subst e
 replace hA:=hA.le l12 ap'
 rw[ep]at h10
 refine CallR.shown (are_true (h10.le (View.le_trans l12 (View.le_or ap'))) h12 (b32 lQ) sQ) λv V2' V13 l13 e ap hv=>⟨_,hv,λc=>absurd c (by simp),λ_ => ?_⟩
 subst e
 replace hA:=hA.le l13 ap
 have L13:=View.le_trans l10 (View.le_trans l11 (View.le_trans l12 l13))
 replace h1:=h1.le L13
 replace h2:=h2.le L13
 replace h3:=h3.le L13
 replace h7:=h7.le L13
 refine CallR.aside (Energy_spec h1 (b64 lX) sX (by decide)) λv V15 l15 ap ⟨r14,hv,h14⟩=>⟨r14,_,hv,?_⟩
 replace hA:=hA.le l15 ap
 refine CallR.shown (Energy_spec hA.at (b64 lA) (sAk lA) (by decide)) λv V2' V16 l16 e ap ⟨r16,hv,h16⟩=>⟨r16,_,hv,⟨λc=>absurd c (by simp),λ_=>⟨λc=>absurd c (by simp),λ_ => ?_⟩⟩,?_⟩
 . subst e
   replace hA:=hA.le l16 ap
   rw[lA]at h16
   rw[lX]at h14
   refine CallR.aside (num_Int_spec (n:=(N:Int)) nI.1 nI.2) λv V20 l20 ap ⟨r18,hv,h18⟩=>⟨r18,hv,?_⟩
   replace hA:=hA.le l20 ap
   refine CallR.aside (Num_Mul_spec (h14.le (View.le_trans l16 l20)) h18 t14 ti) λv V21 l21 ap ⟨r19,hv,h19⟩=>⟨r19,hv,?_⟩
   replace hA:=hA.le l21 ap
   refine CallR.shown (Num_Same_spec (h16.le (View.or_mono (View.le_trans l20 l21))) (h19.le (View.le_or ap)) t16 tm) λv V2' V22 l22 e ap hv=>⟨_,hv,λc => ?_,λ_=>hA.le l22 ap⟩
   rw[decide_eq_true ee]at c
   exact absurd c (by simp)
 intro x3 V17 l17 hA
 dsimp only at hA ⊢
 clear h9 h10 h12 h14 h16 h7'
 have L17:=View.le_trans l15 (View.le_trans l16 l17)
 replace h1:=h1.le L17
 replace h2:=h2.le L17
 replace h3:=h3.le L17
 replace h7:=h7.le L17
 refine CallR.aside (Convolve_spec h1 h3 fXY sX (sYk lX) (by decide)) λv V24 l24 ap ⟨r21,hv,h21⟩=>⟨r21,_,hv,?_⟩
 replace hA:=hA.le l24 ap
 refine CallR.aside (Convolve_spec (h3.le l24) (h1.le l24) fYX sY (sXk lY) (by decide)) λv V25 l25 ap ⟨r23,hv,h23⟩=>⟨r23,_,hv,?_⟩
 replace hA:=hA.le l25 ap
 rw[<-ec]at h23
 refine CallR.shown (Times_spec hA.at (h7.le (View.le_trans (View.le_trans l24 l25) (View.le_or ap))) fAB (sAk lA) (sBk lB) (by decide)) λv V2' V26 l26 e ap ⟨r25,hv,h25⟩=>⟨r25,_,hv,?_,?_⟩
 . subst e
   replace hA:=hA.le l26 ap
   refine CallR.aside (are_true (h21.le (View.le_trans l25 l26)) (h23.le l26) (b32 lC) (λi hi=>Nat.le_trans (sC i hi) (by decide))) λv V28 l28 ap hv=>⟨_,hv,λc=>absurd c (by simp),λ_=>⟨λc=>absurd c (by simp),λ_ => ?_⟩⟩
   exact⟨hA.le l28 ap,h25.le (View.or_mono l28)⟩
 intro x5 V27 l27 hAT
 obtain⟨hA,h25⟩:=hAT
 have L27:=View.le_trans l24 (View.le_trans l25 (View.le_trans l26 l27))
 replace h1:=h1.le L27
 replace h2:=h2.le L27
 replace h21:=h21.le (View.le_trans l25 (View.le_trans l26 l27))
 refine CallR.aside (Forward_spec 48 4 (by rw[lC]; exact lenN) (by rw[lW,lC]) h21 h2 sC (sWk lC) (by decide)) λv V31 l31 ap ⟨r28,hv,h28⟩=>⟨r28,0,hv,?_⟩
 replace hA:=hA.le l31 ap
 rw[et]at h28
 refine CallR.shown (are_true (h28.le (View.le_or ap)) (h25.le (View.or_mono l31)) (b32 lT) sT) λv V2' V32 l32 e ap hv=>⟨_,hv,λc=>absurd c (by simp),λ_ => ?_⟩
 subst e
 replace hA:=hA.le l32 ap
 refine CallR.aside (Shift_spec (b:=p3) (h1.le (View.le_trans l31 l32)) (b64 lX)) λv V34 l34 ap ⟨r31,hv,h31⟩=>⟨r31,_,hv,λc=>absurd c (by simp),λ_ => ?_⟩
 replace hA:=hA.le l34 ap
 refine CallR.aside (Forward_spec 5 4 (by rw[lS]; exact lenN) (by rw[lW,lS]) h31 (h2.le (View.le_trans l31 (View.le_trans l32 l34))) sS (sWk lS) (by decide)) λv V36 l36 ap ⟨r33,hv,h33⟩=>⟨r33,0,hv,?_⟩
 replace hA:=hA.le l36 ap
 rw[es]at h33
 refine⟨⟨0,rfl,Nat.zero_le _,by rw[mixed_zero]; exact hA⟩,?_⟩
 clear hA
 rintro⟨t175,o0⟩ V37 l37 ⟨t,ett,ht,hA⟩
 dsimp only at ett hA ⊢
 subst ett
 replace h2:=h2.le (View.le_trans l31 (View.le_trans l32 (View.le_trans l34 (View.le_trans l36 l37))))
 replace h33:=h33.le l37
 have lX2:(mixed A W S t).length=N:=by rw[mixed_length,lA]
 refine⟨λhlt => ?_,λhge => ?_⟩
 . have hk:t<N:=lt_ofD hlt
   have hk2:t<(mixed A W S t).length:=by rw[lX2]; exact hk
   have some5:Option.isSome r5.a=true:=(NumsAt.get hA.at (t:=(t:Int)) (Int.natCast_nonneg _) (by rw[Int.toNat_natCast]; exact hk2)).1.2.2
   have ir:=root_prog p3 hk N4
   have il:(t*S)%N<N:=Nat.mod_lt _ N1
   have il2:(t*S)%N<W.length:=by rw[lW]; exact il
   rw[ir,<-hS]
   obtain⟨x9,g1,g2,g3⟩:=hA.get hk
   obtain⟨w1,x10,w2,w3,w4⟩:=NumsAt.get h2 (t:=(((t*S)%N:Nat):Int)) (Int.natCast_nonneg _) (by rw[Int.toNat_natCast]; exact il2)
   rw[mixed_nth (by rw[lA]; exact hk),if_neg (Nat.lt_irrefl _)]at g3
   rw[Int.toNat_natCast]at w2 w3 w4
   refine⟨⟨Int.natCast_nonneg _,Int.ofNat_lt.2 hk,some5⟩,x9,g1,g2,ntz,ntz,ntz,w1,x10,.inr w2,w3,?_⟩
   refine CallR.aside (Num_Mul_spec g3 w4 (Nat.le_trans (sA t hk) (by decide)) (Nat.le_trans (sW _ il) (by decide))) λv V38 l38 ap ⟨r35,hv,h35⟩=>⟨r35,hv,⟨Int.natCast_nonneg _,Int.ofNat_lt.2 hk,some5⟩,?_⟩
   replace hA:=hA.le l38 ap
   obtain⟨b,c,l,q1,q2,q3,q4⟩:=hA.put hk h35
   refine⟨b,c,l,q1,q2,q3,?_⟩
   rw[t_next hk N4]
   refine⟨⟨t+1,rfl,hk,?_⟩,t_less hk⟩
   have st:=mixed_step (A:=A) (W:=W) (s:=S) (t:=t) (by rw[lA]; exact hk)
   rw[lA]at st
   rw[<-st]; exact q4
 . have e:N=t:=eq_ofD ht hge
   subst e
   have em:mixed A W S N=turnS A W S:=by have g:=mixed_all A W S; rw[lA]at g; exact g
   rw[em]at hA
   have hr:=hA.at
   refine CallR.shown (are_true (h33.le (View.le_or (by obtain⟨_,_,_,_,ap,_⟩:=hA; exact ap))) hr (b32 lV) sV) λv V2' V39 l39 e ap hv=>⟨_,hv,λ_ => ?_,λc=>absurd c (by simp)⟩
   refine CallR.aside awake_spec λv V40 l40 _ hv=>⟨_,hv,by decide,λV41 _ _=>rfl⟩
