/- Part of the proof; it has the parts CNum1 CTr1 COpen COpen6 CTrn CRect CElN CMatN CGridN CTurnN CTr2 CFor CBack CBackL CTgN CRec2. -/
import Derived.Test.YtfdaofhjkdabbaaPartC
import Derived.Deep.Slices
namespace Go.Proofs.Ytfdaofhjkdabbaa
open Go Go.Vc Go.Proofs
theorem nat_gcd_spec{V:View}{s t:Sl}{a b:Nat}(hs:NatAt V s a)(ht:NatAt V t b)(ha:wn a<=2^43)(hb:wn b<=2^43) :
 CallV Try.prog n_nat_gcd #[s.v,t.v] V λv V'=>∃r:Sl,v=r.v/\NatAt V' r (Nat.gcd a b):=by
 refine nat_gcd_vc s t V _ (λ_ x V'=>∃a' b',NatAt V' x.t0 a'/\NatAt V' x.t1 b'/\wn a'<=2^43/\wn b'<=2^43/\Nat.gcd a' b'=Nat.gcd a b) (λ_ x V'=>natVal V' x.t1) ⟨⟨a,b,hs,ht,ha,hb,rfl⟩,?_⟩
 rintro⟨x,y⟩ V1 l1 ⟨a',b',hx,hy,wa,wb,hg⟩
 simp only at hx hy ⊢
 have hyl:=hy.len
 refine⟨λhp => ?_,λhp => ?_⟩
 . simp only[gt_iff_lt,decide_eq_true_eq]at hp
   have hb0:b'≠0:=λe=>by rw[<-hy.len_zero]at e; omega
   refine(nat_div_spec hx hy wa hb0).mono λv V2 l2 ⟨q,r,hv,hq,hr⟩=>⟨q,r,hv,?_⟩
   have hlt:a'%b'<b':=Nat.mod_lt _ (by omega)
   have hwr:wn (a'%b')<=wn b':=wn_mono (Nat.le_of_lt hlt)
   refine⟨⟨b',a'%b',hy.le l2,hr,wb,by omega,?_⟩,?_⟩
   . rw[Nat.gcd_comm,<-Nat.gcd_rec,Nat.gcd_comm]; exact hg
   . rw[natVal_eq hr,natVal_eq hy]; exact hlt
 . simp only[gt_iff_lt,decide_eq_false_iff_not]at hp
   have hb0:b'=0:=hy.len_zero.1 (by omega)
   subst hb0
   rw[Nat.gcd_zero_right]at hg
   exact⟨x,rfl,by rw[<-hg]; exact hx⟩
theorem num_wholeOf_spec{V:View}{s:Sl}{n:Nat}(neg:Bool)(h:NatAt V s n) :
 CallV Try.prog n_num_wholeOf #[.bool neg,s.v] V λv V'=>∃r:WhV,v=r.val/\IntAt V' r (if neg=true then -(n:Int)else n):=by
 have hl:=h.len_zero
 refine num_wholeOf_vc neg s V _ ⟨λhn=>⟨_,rfl,?_,?_⟩,λhn=>⟨_,rfl,?_,?_⟩⟩
 . rw[if_pos hn]; simp only[gt_iff_lt,decide_eq_decide]; omega
 . rw[if_pos hn]; simpa using h
 . rw[if_neg (by simp[hn])]; symm; simp only[decide_eq_false_iff_not]; omega
 . rw[if_neg (by simp[hn])]; simpa using h
theorem num_of64_spec{V:View}{n:Int}(h0 : -9223372036854775808<=n)(h1:n<=9223372036854775807) :
 CallV Try.prog n_num_of64 #[.int .i64 n] V λv V'=>∃r:WhV,v=r.val/\IntAt V' r n:=by
 refine num_of64_vc n V _ ⟨λhn => ?_,λhn => ?_⟩
 . simp only[decide_eq_true_eq]at hn
   have e:IntKind.u64.wrap (0-IntKind.u64.wrap n) = -n:=by rw[u64m,u64m]; omega
   rw[e]
   refine(num_natOf_spec (by omega) (by omega)).mono λv V1 _ ⟨r,hv,hr⟩=>⟨r,hv,_,rfl,by simp[hn],?_⟩
   have e2:n.natAbs=(-n).toNat:=by omega
   rw[e2]; exact hr
 . simp only[decide_eq_false_iff_not]at hn
   rw[u64w (by omega) (by omega)]
   refine(num_natOf_spec (by omega) (by omega)).mono λv V1 _ ⟨r,hv,hr⟩=>⟨r,hv,_,rfl,by simp[hn],?_⟩
   have e2:n.natAbs=n.toNat:=by omega
   rw[e2]; exact hr
theorem whole_minus_spec{V:View}{x:WhV}{a:Int}(h:IntAt V x a) :
 CallV Try.prog n_whole_minus #[x.val] V λv V'=>∃r:WhV,v=r.val/\IntAt V' r (-a):=by
 refine whole_minus_vc x V _ ((num_wholeOf_spec (!x.neg) h.2).mono λv V1 _ ⟨r,hv,hr⟩=>⟨r,hv,r,rfl,?_⟩)
 have e:(if(!x.neg)=true then -(a.natAbs:Int)else(a.natAbs:Int)) = -a:=by
  rw[h.1]; simp only[Bool.not_eq_true',decide_eq_false_iff_not]; split<;>omega
 rw[e]at hr; exact hr
theorem whole_plus_spec{V:View}{x y:WhV}{a b:Int}(hx:IntAt V x a)(hy:IntAt V y b)(ha:wn a.natAbs<=2^43)(hb:wn b.natAbs<=2^43) :
 CallV Try.prog n_whole_plus #[x.val,y.val] V λv V'=>∃r:WhV,v=r.val/\IntAt V' r (a+b):=by
 have h1:=hx.1
 have h2:=hy.1
 refine whole_plus_vc x y V _ ⟨λhs => ?_,λhs => ?_⟩
 . refine(nat_add_spec hx.2 hy.2 (by omega) (by omega)).mono λv V1 l1 ⟨r,hv,hr⟩=>⟨r,hv,?_⟩
   refine(num_wholeOf_spec x.neg hr).mono λv V2 _ ⟨w,hv,hw⟩=>⟨w,hv,w,rfl,?_⟩
   have e:(if x.neg=true then -((a.natAbs+b.natAbs:Nat):Int)else((a.natAbs+b.natAbs:Nat):Int))=a+b:=by
    rw[h1,h2]at hs; rw[h1]
    by_cases p:a<0<;>by_cases q:b<0<;>simp[p,q]at hs ⊢<;>omega
   rw[e]at hw; exact hw
 . refine(nat_cmp_spec hx.2 hy.2 (by omega)).mono λv V1 l1 hv=>⟨_,hv,λhc => ?_,λhc => ?_⟩
   . have hc:b.natAbs<=a.natAbs:=by
       rcases Nat.lt_or_ge a.natAbs b.natAbs with h|h
       . rw[if_pos h]at hc; simp at hc
       . exact h
     refine(nat_sub_spec (hx.2.le l1) (hy.2.le l1) (by omega) hc).mono λv V2 l2 ⟨r,hv,hr⟩=>⟨r,hv,?_⟩
     refine(num_wholeOf_spec x.neg hr).mono λv V3 _ ⟨w,hv,hw⟩=>⟨w,hv,w,rfl,?_⟩
     have e:(if x.neg=true then -((a.natAbs-b.natAbs:Nat):Int)else((a.natAbs-b.natAbs:Nat):Int))=a+b:=by
      rw[h1,h2]at hs; rw[h1]
      by_cases p:a<0<;>by_cases q:b<0<;>simp[p,q]at hs ⊢<;>omega
     rw[e]at hw; exact hw
   . have hc:a.natAbs<=b.natAbs:=by
       rcases Nat.lt_or_ge b.natAbs a.natAbs with h|h
       . rw[if_neg (by omega),if_neg (by omega)]at hc; simp at hc
       . exact h
     refine(nat_sub_spec (hy.2.le l1) (hx.2.le l1) (by omega) hc).mono λv V2 l2 ⟨r,hv,hr⟩=>⟨r,hv,?_⟩
     refine(num_wholeOf_spec y.neg hr).mono λv V3 _ ⟨w,hv,hw⟩=>⟨w,hv,w,rfl,?_⟩
     have e:(if y.neg=true then -((b.natAbs-a.natAbs:Nat):Int)else((b.natAbs-a.natAbs:Nat):Int))=a+b:=by
      rw[h1,h2]at hs; rw[h2]
      by_cases p:a<0<;>by_cases q:b<0<;>simp[p,q]at hs ⊢<;>omega
     rw[e]at hw; exact hw
theorem sign_mul(x y a b:Int)(hx:x=if a<0 then -1 else 1)(hy:y=if b<0 then -1 else 1):a*b=x*y*(a.natAbs*b.natAbs:Nat):=by
 have ha:a=x*a.natAbs:=by rw[hx]; split<;>omega
 have hb:b=y*b.natAbs:=by rw[hy]; split<;>omega
 rw[Int.natCast_mul]
 conv=>lhs; rw[ha,hb]
 grind
theorem whole_times_spec{V:View}{x y:WhV}{a b:Int}(hx:IntAt V x a)(hy:IntAt V y b)(ha:wn a.natAbs<=2^43)(hb:wn b.natAbs<=2^43) :
 CallV Try.prog n_whole_times #[x.val,y.val] V λv V'=>∃r:WhV,v=r.val/\IntAt V' r (a*b):=by
 refine whole_times_vc x y V _ ((nat_mul_spec hx.2 hy.2 (by omega) (by omega)).mono λv V1 l1 ⟨r,hv,hr⟩=>⟨r,hv,?_⟩)
 refine(num_wholeOf_spec (!(x.neg==y.neg)) hr).mono λv V2 _ ⟨w,hv,hw⟩=>⟨w,hv,w,rfl,?_⟩
 have e:(if(!(x.neg==y.neg))=true then -((a.natAbs*b.natAbs:Nat):Int)else((a.natAbs*b.natAbs:Nat):Int))=a*b:=by
  rw[sign_mul _ _ a b rfl rfl,hx.1,hy.1]
  by_cases p:a<0<;>by_cases q:b<0<;>simp[p,q]
 rw[e]at hw; exact hw
theorem whole_scaled_spec{V:View}{x:WhV}{s:Sl}{a:Int}{n:Nat}(hx:IntAt V x a)(hs:NatAt V s n)(ha:wn a.natAbs<=2^43)(hb:wn n<=2^43) :
 CallV Try.prog n_whole_scaled #[x.val,s.v] V λv V'=>∃r:WhV,v=r.val/\IntAt V' r (a*n):=by
 refine whole_scaled_vc x s V _ ((nat_mul_spec hx.2 hs (by omega) (by omega)).mono λv V1 l1 ⟨r,hv,hr⟩=>⟨r,hv,?_⟩)
 refine(num_wholeOf_spec x.neg hr).mono λv V2 _ ⟨w,hv,hw⟩=>⟨w,hv,w,rfl,?_⟩
 have e:(if x.neg=true then -((a.natAbs*n:Nat):Int)else((a.natAbs*n:Nat):Int))=a*n:=by
  conv=>rhs; rw[hx.val]
  rw[Int.natCast_mul]; split
  . rw[Int.neg_mul]
  . rfl
 rw[e]at hw; exact hw
theorem whole_cmp_spec{V:View}{x y:WhV}{a b:Int}(hx:IntAt V x a)(hy:IntAt V y b)(ha:wn a.natAbs<=2^43)(hb:wn b.natAbs<=2^43) :
 CallV Try.prog n_whole_cmp #[x.val,y.val] V λv _=>v = .int .i64 (cmpZ a b):=by
 refine whole_cmp_vc x y V _ ((whole_minus_spec hy).mono λv V1 l1 ⟨r,hv,hr⟩=>⟨r,hv,?_⟩)
 refine(whole_plus_spec (hx.le l1) hr ha (by rw[Int.natAbs_neg]; exact hb)).mono λv V2 l2 ⟨w,hv,hw⟩=>⟨w,hv,λh => ?_,λh => ?_⟩
 . have:a + -b<0:=by have:=hw.1; rw[h]at this; simpa using this
   rw[cmpZ_lt (by omega)]
 . have h1:¬a + -b<0:=by have:=hw.1; rw[h]at this; simpa using this
   have h2:=hw.2.len_zero
   by_cases e:a=b
   . have:w.mag.len=0:=h2.2 (by omega)
     rw[cmpZ_eq e,this]; rfl
   . have:w.mag.len≠0:=λh=>by have:=h2.1 h; omega
     rw[cmpZ_gt (by omega)]
     congr 1; split<;>omega
theorem num_over_spec{V:View}{x y:WhV}{s:Sl}{z:Cq}{a b:Int}{d:Nat}(hx:IntAt V x a)(hy:IntAt V y b)(hs:NatAt V s d)(hz:Rep z a b d)(ha:wn a.natAbs<=2^43)(hb:wn b.natAbs<=2^43)(hd:wn d<=2^43) :
 CallV Try.prog n_num_over #[x.val,y.val,s.v] V λv V'=>∃r:NumV,v=r.val/\NumAt V' r z:=by
 obtain⟨e1,e2,e3⟩:=hz.eqs
 have hp:=gcd3_pos a b hz.pos
 have d1:=gcd3_dvd1 a b d
 have d2:=gcd3_dvd2 a b d
 have d3:=gcd3_dvd3 a b d
 refine num_over_vc x y s V _ ((nat_gcd_spec hx.2 hy.2 ha hb).mono λv V1 l1 ⟨r1,hv,h1⟩=>⟨r1,hv,?_⟩)
 have hw1:wn (Nat.gcd a.natAbs b.natAbs)<=2^43:=by
  rcases Nat.eq_zero_or_pos a.natAbs with h|h
  . rw[h,Nat.gcd_zero_left]; exact hb
  . exact Nat.le_trans (wn_mono (Nat.le_of_dvd h (Nat.gcd_dvd_left _ _))) ha
 refine(nat_gcd_spec h1 (hs.le l1) hw1 hd).mono λv V2 l2 ⟨r2,hv,h2⟩=>⟨r2,hv,?_⟩
 have hg:Nat.gcd (Nat.gcd a.natAbs b.natAbs) d=gcd3 a b d:=rfl
 rw[hg]at h2
 refine(nat_one_spec h2).mono λv V3 l3 hv=>⟨_,hv,λhn => ?_,λhn => ?_⟩
 . have l13:=View.le_trans l1 (View.le_trans l2 l3)
   refine(nat_div_spec (hx.2.le l13) (h2.le l3) ha (by omega)).mono λv V4 l4 ⟨q1,m1,hv,hq1,_⟩=>⟨q1,m1,hv,?_⟩
   refine(nat_div_spec (hy.2.le (View.le_trans l13 l4)) (h2.le (View.le_trans l3 l4)) hb (by omega)).mono λv V5 l5 ⟨q2,m2,hv,hq2,_⟩=>⟨q2,m2,hv,?_⟩
   have l45:=View.le_trans l4 l5
   refine(nat_div_spec (hs.le (View.le_trans l13 l45)) (h2.le (View.le_trans l3 l45)) hd (by omega)).mono λv V6 l6 ⟨q3,m3,hv,hq3,_⟩=>⟨q3,m3,hv,?_⟩
   have f1:IntAt V6 (WhV.mk x.neg q1) z.A:=⟨by rw[e1,div_lt_zero d1 hp]; exact hx.1,by rw[e1,natAbs_div d1]; exact hq1.le (View.le_trans l5 l6)⟩
   have f2:IntAt V6 (WhV.mk y.neg q2) z.B:=⟨by rw[e2,div_lt_zero d2 hp]; exact hy.1,by rw[e2,natAbs_div d2]; exact hq2.le l6⟩
   refine(nat_one_spec hq3).mono λv V7 l7 hv=>⟨_,hv,λh=>⟨_,rfl,f1.le l7,f2.le l7,?_⟩,λh=>⟨_,rfl,f1.le l7,f2.le l7,?_⟩⟩
   . simp only[decide_eq_true_eq]at h
     rw[e3,if_pos h]; exact NatAt.zero V7
   . simp only[decide_eq_false_iff_not]at h
     rw[e3,if_neg h]; exact hq3.le l7
 . simp only[Bool.not_eq_false',decide_eq_true_eq]at hn
   rw[hn]at e1 e2 e3
   simp only[Int.natCast_one,Int.ediv_one]at e1 e2
   rw[Nat.div_one]at e3
   have l13:=View.le_trans l1 (View.le_trans l2 l3)
   refine(nat_one_spec (hs.le l13)).mono λv V7 l7 hv=>⟨_,hv,λh=>⟨_,rfl,?_,?_,?_⟩,λh=>⟨_,rfl,?_,?_,?_⟩⟩
   . rw[e1]; exact hx.le (View.le_trans l13 l7)
   . rw[e2]; exact hy.le (View.le_trans l13 l7)
   . simp only[decide_eq_true_eq]at h
     rw[e3,if_pos h]; exact NatAt.zero V7
   . rw[e1]; exact hx.le (View.le_trans l13 l7)
   . rw[e2]; exact hy.le (View.le_trans l13 l7)
   . simp only[decide_eq_false_iff_not]at h
     rw[e3,if_neg h]; exact hs.le (View.le_trans l13 l7)
theorem Num_den_spec{V:View}{x:NumV}{z:Cq}(h:NumAt V x z):CallV Try.prog n_Num_den #[x.val] V λv V'=>∃r:Sl,v=r.v/\NatAt V' r z.D:=by
 have hu:=h.under
 have hl:=hu.len_zero
 have hD:=z.D_pos
 refine Num_den_vc x V _ ⟨λh0 => ?_,λh0 => ?_⟩
 . have h0:x.under.len=0:=by have:(x.under.len:Int)=0:=(by simpa using h0); omega
   intro b V1 l1 _ hb
   have hz:=hl.1 h0
   have h1:z.D=1:=by split at hz<;>omega
   refine⟨_,rfl,?_⟩
   rw[h1]
   have:dig 1=[1]:=by rw[dig_pos (by omega)]; simp[dig_zero]
   unfold NatAt; rw[this]
   exact Words.of_block (by rw[hb]; rfl) rfl (Nat.le_refl _) (by intro d hd; simp at hd; omega)
 . have h0:x.under.len≠0:=by have:¬(x.under.len:Int)=0:=(by simpa using h0); omega
   refine⟨_,rfl,?_⟩
   have hz:¬(if z.D=1 then 0 else z.D)=0:=λe=>h0 (hl.2 e)
   split at hz
   . omega
   . rename_i h1; rw[if_neg h1]at hu; exact hu
theorem num_Int_spec{V:View}{n:Int}(h0 : -9223372036854775808<=n)(h1:n<=9223372036854775807) :
 CallV Try.prog n_num_Int #[.int .i64 n] V λv V'=>∃r:NumV,v=r.val/\NumAt V' r ⟨(n:Rat),0⟩:=by
 obtain⟨e1,e2,e3⟩:=Cq.ofInt_eqs n
 refine num_Int_vc n V _ ((num_of64_spec h0 h1).mono λv V1 _ ⟨r,hv,hr⟩=>⟨r,hv,_,rfl,by rw[e1]; exact hr,by rw[e2]; exact IntAt.zero _,by rw[e3]; exact NatAt.zero _⟩)
theorem wn64{n:Nat}(h:n<=18446744073709551615):wn n<=2^43:=by
 have:wn n<=2:=wn_le_of_lt (by omega)
 omega
theorem num_New_spec{V:View}{p q d:Int}(p0 : -9223372036854775808<=p)(p1:p<=9223372036854775807)(q0 : -9223372036854775808<=q)(q1:q<=9223372036854775807)(d0 : -9223372036854775808<=d)(d1:d<=9223372036854775807)(hd:d≠0) :
 CallV Try.prog n_num_New #[.int .i64 p,.int .i64 q,.int .i64 d] V λv V'=>∃r:NumV,v = .tuple #[r.val,.int .i64 0]/\NumAt V' r ⟨(p:Rat) / (d:Rat),(q:Rat) / (d:Rat)⟩:=by
 refine num_New_vc p q d V _ ⟨λh => ?_,λ_ => ?_⟩
 . exact absurd (by simpa using h) hd
 refine(num_of64_spec p0 p1).mono λv V1 l1 ⟨a,hv,ha⟩=>⟨a,hv,?_⟩
 refine(num_of64_spec q0 q1).mono λv V2 l2 ⟨b,hv,hb⟩=>⟨b,hv,?_⟩
 refine(num_of64_spec d0 d1).mono λv V3 l3 ⟨c,hv,hc⟩=>⟨c,hv,λhn => ?_,λhn => ?_⟩
 . have hneg:d<0:=by have:=hc.1; rw[hn]at this; simpa using this.symm
   refine(whole_minus_spec (ha.le (View.le_trans l2 l3))).mono λv V4 l4 ⟨a',hv,ha'⟩=>⟨a',hv,?_⟩
   refine(whole_minus_spec (hb.le (View.le_trans l3 l4))).mono λv V5 l5 ⟨b',hv,hb'⟩=>⟨b',hv,?_⟩
   refine(num_over_spec (ha'.le l5) hb' (hc.2.le (View.le_trans l4 l5)) ?_ (wn64 (by omega)) (wn64 (by omega)) (wn64 (by omega))).mono λv V6 l6 ⟨r,hv,hr⟩=>⟨r,hv,r,rfl,hr⟩
   have e:((d.natAbs:Nat):Rat) = -(d:Rat):=by
    have:(d.natAbs:Int) = -d:=by omega
    rw[<-Rat.intCast_natCast,this]; push_cast; rfl
   refine⟨by omega,?_,?_⟩<;>(simp only[e]; push_cast; rw[Rat.div_def,Rat.div_def]; grind)
 . have hpos:¬d<0:=by have:=hc.1; rw[hn]at this; simpa using this.symm
   refine(num_over_spec (ha.le (View.le_trans l2 l3)) (hb.le l3) hc.2 ?_ (wn64 (by omega)) (wn64 (by omega)) (wn64 (by omega))).mono λv V6 l6 ⟨r,hv,hr⟩=>⟨r,hv,r,rfl,hr⟩
   have e:((d.natAbs:Nat):Rat)=(d:Rat):=by
    have:(d.natAbs:Int)=d:=by omega
    rw[<-Rat.intCast_natCast,this]
   refine⟨by omega,?_,?_⟩<;>simp only[e]
theorem Cq.wA{z:Cq}(h:z.sz<=2^40):wn z.A.natAbs<=2^35:=wn_bl (by have:=z.szA; omega)
theorem Cq.wB{z:Cq}(h:z.sz<=2^40):wn z.B.natAbs<=2^35:=wn_bl (by have:=z.szB; omega)
theorem Cq.wD{z:Cq}(h:z.sz<=2^40):wn z.D<=2^35:=wn_bl (by have:=z.szD; omega)
theorem wn_muli{a b:Int}{k:Nat}(ha:wn a.natAbs<=k)(hb:wn b.natAbs<=k):wn (a*b).natAbs<=2*k:=by
 rw[Int.natAbs_mul]; have:=wn_mul_le a.natAbs b.natAbs; omega
theorem wn_addi{a b:Int}{k:Nat}(ha:wn a.natAbs<=k)(hb:wn b.natAbs<=k):wn (a+b).natAbs<=k+1:=by
 have:=wn_mono (Int.natAbs_add_le a b); have:=wn_add_le a.natAbs b.natAbs; omega
theorem wn_negi{a:Int}{k:Nat}(ha:wn a.natAbs<=k):wn (-a).natAbs<=k:=by rw[Int.natAbs_neg]; exact ha
theorem Num_Add_spec{V:View}{x y:NumV}{z w:Cq}(hx:NumAt V x z)(hy:NumAt V y w)(hz:z.sz<=2^40)(hw:w.sz<=2^40) :
 CallV Try.prog n_Num_Add #[x.val,y.val] V λv V'=>∃r:NumV,v=r.val/\NumAt V' r (z+w):=by
 have zA:=Cq.wA hz; have zB:=Cq.wB hz; have zD:=Cq.wD hz
 have wA:=Cq.wA hw; have wB:=Cq.wB hw; have wD:=Cq.wD hw
 have zD':wn (z.D:Int).natAbs<=2^35:=zD
 have wD':wn (w.D:Int).natAbs<=2^35:=wD
 have s1:=wn_muli zA wD'; have s2:=wn_muli wA zD'; have s3:=wn_muli zB wD'; have s4:=wn_muli wB zD'
 have s5:=wn_addi s1 s2; have s6:=wn_addi s3 s4
 have s7:=wn_mul_le z.D w.D
 refine Num_Add_vc x y V _ ((Num_den_spec hx).mono λv V1 l1 ⟨r1,hv,h1⟩=>⟨r1,hv,?_⟩)
 replace hx:=hx.le l1; replace hy:=hy.le l1
 refine(Num_den_spec hy).mono λv V2 l2 ⟨r2,hv,h2⟩=>⟨r2,hv,?_⟩
 replace hx:=hx.le l2; replace hy:=hy.le l2; replace h1:=h1.le l2
 refine(whole_scaled_spec hx.re h2 (by omega) (by omega)).mono λv V3 l3 ⟨r3,hv,h3⟩=>⟨r3,hv,?_⟩
 replace hx:=hx.le l3; replace hy:=hy.le l3; replace h1:=h1.le l3; replace h2:=h2.le l3
 refine(whole_scaled_spec hy.re h1 (by omega) (by omega)).mono λv V4 l4 ⟨r4,hv,h4⟩=>⟨r4,hv,?_⟩
 replace hx:=hx.le l4; replace hy:=hy.le l4; replace h1:=h1.le l4; replace h2:=h2.le l4; replace h3:=h3.le l4
 refine(whole_plus_spec h3 h4 (by omega) (by omega)).mono λv V5 l5 ⟨r5,hv,h5⟩=>⟨r5,hv,?_⟩
 replace hx:=hx.le l5; replace hy:=hy.le l5; replace h1:=h1.le l5; replace h2:=h2.le l5
 refine(whole_scaled_spec hx.im h2 (by omega) (by omega)).mono λv V6 l6 ⟨r6,hv,h6⟩=>⟨r6,hv,?_⟩
 replace hy:=hy.le l6; replace h1:=h1.le l6; replace h2:=h2.le l6; replace h5:=h5.le l6
 refine(whole_scaled_spec hy.im h1 (by omega) (by omega)).mono λv V7 l7 ⟨r7,hv,h7⟩=>⟨r7,hv,?_⟩
 replace h1:=h1.le l7; replace h2:=h2.le l7; replace h5:=h5.le l7; replace h6:=h6.le l7
 refine(whole_plus_spec h6 h7 (by omega) (by omega)).mono λv V8 l8 ⟨r8,hv,h8⟩=>⟨r8,hv,?_⟩
 replace h1:=h1.le l8; replace h2:=h2.le l8; replace h5:=h5.le l8
 refine(nat_mul_spec h1 h2 (by omega) (by omega)).mono λv V9 l9 ⟨r9,hv,h9⟩=>⟨r9,hv,?_⟩
 exact(num_over_spec (h5.le l9) (h8.le l9) h9 (z.canon.rep.add w.canon.rep) (by omega) (by omega) (by omega)).mono λv V10 _ ⟨r,hv,hr⟩=>⟨r,hv,r,rfl,hr⟩
theorem Num_Neg_spec{V:View}{x:NumV}{z:Cq}(hx:NumAt V x z):CallV Try.prog n_Num_Neg #[x.val] V λv V'=>∃r:NumV,v=r.val/\NumAt V' r (-z):=by
 obtain⟨e1,e2,e3⟩:=z.neg_eqs
 refine Num_Neg_vc x V _ ((whole_minus_spec hx.re).mono λv V1 l1 ⟨r1,hv,h1⟩=>⟨r1,hv,?_⟩)
 exact(whole_minus_spec (hx.im.le l1)).mono λv V2 l2 ⟨r2,hv,h2⟩=>⟨r2,hv,_,rfl,by rw[e1]; exact h1.le l2,by rw[e2]; exact h2,by rw[e3]; exact hx.under.le (View.le_trans l1 l2)⟩
theorem Num_Conj_spec{V:View}{x:NumV}{z:Cq}(hx:NumAt V x z):CallV Try.prog n_Num_Conj #[x.val] V λv V'=>∃r:NumV,v=r.val/\NumAt V' r z.conj:=by
 obtain⟨e1,e2,e3⟩:=z.conj_eqs
 exact Num_Conj_vc x V _ ((whole_minus_spec hx.im).mono λv V1 l1 ⟨r1,hv,h1⟩=>⟨r1,hv,_,rfl,by rw[e1]; exact hx.re.le l1,by rw[e2]; exact h1,by rw[e3]; exact hx.under.le l1⟩)
theorem Num_Sub_spec{V:View}{x y:NumV}{z w:Cq}(hx:NumAt V x z)(hy:NumAt V y w)(hz:z.sz<=2^40)(hw:w.sz<=2^40) :
 CallV Try.prog n_Num_Sub #[x.val,y.val] V λv V'=>∃r:NumV,v=r.val/\NumAt V' r (z-w):=by
 refine Num_Sub_vc x y V _ ((Num_Neg_spec hy).mono λv V1 l1 ⟨r1,hv,h1⟩=>⟨r1,hv,?_⟩)
 rw[Cq.sub_eq]
 exact(Num_Add_spec (hx.le l1) h1 hz (by rw[Cq.sz_neg]; exact hw)).mono λv V2 _ ⟨r,hv,hr⟩=>⟨r,hv,r,rfl,hr⟩
theorem Num_Mul_spec{V:View}{x y:NumV}{z w:Cq}(hx:NumAt V x z)(hy:NumAt V y w)(hz:z.sz<=2^40)(hw:w.sz<=2^40) :
 CallV Try.prog n_Num_Mul #[x.val,y.val] V λv V'=>∃r:NumV,v=r.val/\NumAt V' r (z*w):=by
 have zA:=Cq.wA hz; have zB:=Cq.wB hz; have zD:=Cq.wD hz
 have wA:=Cq.wA hw; have wB:=Cq.wB hw; have wD:=Cq.wD hw
 have s1:=wn_muli zA wA; have s2:=wn_muli zB wB; have s2':=wn_negi s2; have s3:=wn_muli zA wB; have s4:=wn_muli zB wA
 have s5:=wn_addi s1 s2'; have s6:=wn_addi s3 s4
 have s7:=wn_mul_le z.D w.D
 refine Num_Mul_vc x y V _ ((whole_times_spec hx.re hy.re (by omega) (by omega)).mono λv V1 l1 ⟨r1,hv,h1⟩=>⟨r1,hv,?_⟩)
 replace hx:=hx.le l1; replace hy:=hy.le l1
 refine(whole_times_spec hx.im hy.im (by omega) (by omega)).mono λv V2 l2 ⟨r2,hv,h2⟩=>⟨r2,hv,?_⟩
 replace hx:=hx.le l2; replace hy:=hy.le l2; replace h1:=h1.le l2
 refine(whole_minus_spec h2).mono λv V3 l3 ⟨r3,hv,h3⟩=>⟨r3,hv,?_⟩
 replace hx:=hx.le l3; replace hy:=hy.le l3; replace h1:=h1.le l3
 refine(whole_plus_spec h1 h3 (by omega) (by omega)).mono λv V4 l4 ⟨r4,hv,h4⟩=>⟨r4,hv,?_⟩
 replace hx:=hx.le l4; replace hy:=hy.le l4
 refine(whole_times_spec hx.re hy.im (by omega) (by omega)).mono λv V5 l5 ⟨r5,hv,h5⟩=>⟨r5,hv,?_⟩
 replace hx:=hx.le l5; replace hy:=hy.le l5; replace h4:=h4.le l5
 refine(whole_times_spec hx.im hy.re (by omega) (by omega)).mono λv V6 l6 ⟨r6,hv,h6⟩=>⟨r6,hv,?_⟩
 replace hx:=hx.le l6; replace hy:=hy.le l6; replace h4:=h4.le l6; replace h5:=h5.le l6
 refine(whole_plus_spec h5 h6 (by omega) (by omega)).mono λv V7 l7 ⟨r7,hv,h7⟩=>⟨r7,hv,?_⟩
 replace hx:=hx.le l7; replace hy:=hy.le l7; replace h4:=h4.le l7
 refine(Num_den_spec hx).mono λv V8 l8 ⟨r8,hv,h8⟩=>⟨r8,hv,?_⟩
 replace hy:=hy.le l8; replace h4:=h4.le l8; replace h7:=h7.le l8
 refine(Num_den_spec hy).mono λv V9 l9 ⟨r9,hv,h9⟩=>⟨r9,hv,?_⟩
 replace h4:=h4.le l9; replace h7:=h7.le l9; replace h8:=h8.le l9
 refine(nat_mul_spec h8 h9 (by omega) (by omega)).mono λv V10 l10 ⟨r10,hv,h10⟩=>⟨r10,hv,?_⟩
 refine(num_over_spec (h4.le l10) (h7.le l10) h10 ?_ (by omega) (by omega) (by omega)).mono λv V11 _ ⟨r,hv,hr⟩=>⟨r,hv,r,rfl,hr⟩
 rw[<-Int.sub_eq_add_neg]; exact z.canon.rep.mul w.canon.rep
theorem Num_Same_spec{V:View}{x y:NumV}{z w:Cq}(hx:NumAt V x z)(hy:NumAt V y w)(hz:z.sz<=2^40)(hw:w.sz<=2^40) :
 CallV Try.prog n_Num_Same #[x.val,y.val] V λv _=>v = .bool (decide (z=w)):=by
 have zA:=Cq.wA hz; have zB:=Cq.wB hz; have zD:=Cq.wD hz
 have wA:=Cq.wA hw; have wB:=Cq.wB hw; have wD:=Cq.wD hw
 refine Num_Same_vc x y V _ ((whole_cmp_spec hx.re hy.re (by omega) (by omega)).mono λv V1 l1 hv=>⟨_,hv,λh1 => ?_,λh1=>⟨(λh=>by cases h),λ_ => ?_⟩⟩)
 . have h1:z.A=w.A:=cmpZ_zero.1 (by simpa using h1)
   refine(whole_cmp_spec (hx.im.le l1) (hy.im.le l1) (by omega) (by omega)).mono λv V2 l2 hv=>⟨_,hv,λh2 => ?_,λh2 => ?_⟩
   . have h2:z.B=w.B:=cmpZ_zero.1 (by simpa using h2)
     refine(nat_cmp_spec (hx.under.le (View.le_trans l1 l2)) (hy.under.le (View.le_trans l1 l2)) ?_).mono λv V3 l3 hv=>⟨_,hv,?_⟩
     . split
       . rw[wn_zero]; omega
       . omega
     . have hD1:=z.D_pos
       have hD2:=w.D_pos
       congr 1
       by_cases e:z.D=w.D
       . have:z=w:=Cq.eq_of h1 h2 e
         subst this; simp
       . have:z≠w:=by rintro rfl; exact e rfl
         simp only[this,decide_false]
         have h3:(if z.D=1 then 0 else z.D)≠(if w.D=1 then 0 else w.D):=by split<;>split<;>omega
         rw[if_neg h3]
         by_cases h:(if z.D=1 then 0 else z.D)<(if w.D=1 then 0 else w.D)
         . rw[if_pos h]; rfl
         . rw[if_neg h]; rfl
   . have h2:¬z.B=w.B:=λe=>by rw[cmpZ_zero.2 e]at h2; simp at h2
     have:z≠w:=by rintro rfl; exact h2 rfl
     simp[this]
 . have h1:¬z.A=w.A:=λe=>by rw[cmpZ_zero.2 e]at h1; simp at h1
   have:z≠w:=by rintro rfl; exact h1 rfl
   simp[this]
theorem Num_Real_spec{V:View}{x:NumV}{z:Cq}(hx:NumAt V x z):CallV Try.prog n_Num_Real #[x.val] V λv _=>v = .bool (decide (z.im=0)):=by
 refine Num_Real_vc x V _ ?_
 have h1:=hx.im.2.len_zero
 have h2:=Cq.B_zero (z:=z)
 congr 1
 by_cases e:z.im=0
 . have:x.im.mag.len=0:=h1.2 (by rw[h2.2 e]; rfl)
   simp[e,this]
 . have:x.im.mag.len≠0:=λh=>e (h2.1 (by have:=h1.1 h; omega))
   simp only[e,decide_false,beq_eq_false_iff_ne,ne_eq]; omega
theorem Num_Of_spec{V:View}{x y:NumV}{w:Cq}(hy:NumAt V y w):CallV Try.prog n_Num_Of #[x.val,y.val] V λv V'=>∃r:NumV,v=r.val/\NumAt V' r w :=
 Num_Of_vc x y V _ ⟨y,rfl,hy⟩
def lenB(n:Nat):Bool:=[1,2,4,8,16,32,64].contains n
theorem lenB_eq:∀n∈List.range 65,1<=n->(IntKind.i64.wrap (BitVec.toNat ((BitVec.ofInt IntKind.i64.bits (n:Int)) &&& (BitVec.ofInt IntKind.i64.bits (IntKind.i64.wrap ((n:Int)-1)))))==0)=lenB n:=by
 decide +kernel
theorem lenB_le{n:Nat}(h:lenB n=true):1<=n/\n<=64:=by
 simp[lenB]at h; omega
theorem transform_length_spec{V:View}{n:Int}(h0:0<=n):CallV Try.prog n_transform_length #[.int .i64 n] V λv _=>v = .bool (lenB n.toNat):=by
 refine transform_length_vc n V _ ⟨λh1=>⟨λh2 => ?_,λh2 => ?_⟩,λh1=>⟨λh=>absurd h (by simp),λ_ => ?_⟩⟩
 . simp only[decide_eq_true_eq]at h1 h2
   have:=lenB_eq n.toNat (by simp; omega) (by omega)
   rw[Int.toNat_of_nonneg h0]at this
   rw[this]
 . simp only[decide_eq_false_iff_not]at h2
   congr 1; symm
   rw[Bool.eq_false_iff]; intro e
   have:=lenB_le e; omega
 . simp only[decide_eq_false_iff_not]at h1
   congr 1; symm
   rw[Bool.eq_false_iff]; intro e
   have:=lenB_le e; omega
theorem transform_fits_spec{V:View}(p q:Sl):CallV Try.prog n_transform_fits_num_Num_ #[p.v,q.v] V λv _=>v = .bool (lenB q.len&&decide (p.len=q.len)):=by
 refine transform_fits_num_Num__vc p q V _ ((transform_length_spec (Int.natCast_nonneg _)).mono λv V1 l1 hv=>⟨_,hv,λh => ?_,λh => ?_⟩)
 . rw[Int.toNat_natCast]at h
   rw[h,Bool.true_and]; congr 1
   rw[Bool.eq_iff_iff]; simp; omega
 . rw[Int.toNat_natCast]at h
   rw[h,Bool.false_and]
def ratQ(r:RatV):Cq:=if r.den=0 then⟨(r.re:Rat),(r.im:Rat)⟩else⟨(r.re:Rat) / (r.den:Rat),(r.im:Rat) / (r.den:Rat)⟩
def ratI(r:RatV):Prop:=(-9223372036854775808<=r.re/\r.re<=9223372036854775807)/\(-9223372036854775808<=r.im/\r.im<=9223372036854775807)/\(-9223372036854775808<=r.den/\r.den<=9223372036854775807)
def ratC(_:View)(x:List Value)(r:RatV):Prop:=x=r.val.cells.toList
def RatsAt(V:View)(s:Sl)(rs:List RatV):Prop:=ListAt 3 ratC V s rs
theorem RatsAt.le{V V':View}(hle:V.le V'){s:Sl}{rs:List RatV}(h:RatsAt V s rs):RatsAt V' s rs:=ListAt.le (P:=ratC) (V:=V) (V':=V') (λ_ _ h=>h) hle h
theorem law1_Of_spec{V:View}{r:RatV}(h:ratI r):CallV Try.prog n_law1_Of #[r.val] V λv V'=>∃x:NumV,v=x.val/\NumAt V' x (ratQ r):=by
 obtain⟨⟨a1,a2⟩,⟨b1,b2⟩,⟨c1,c2⟩⟩:=h
 refine law1_Of_vc r V _ ⟨λh0 => ?_,λh0 => ?_⟩
 . have h0:r.den=0:=by simpa using h0
   refine(num_New_spec a1 a2 b1 b2 (by omega) (by omega) (by omega)).mono λv V1 _ ⟨x,hv,hx⟩=>⟨x,0,hv,x,rfl,?_⟩
   have e:ratQ r=⟨(r.re:Rat) / ((1:Int):Rat),(r.im:Rat) / ((1:Int):Rat)⟩:=by
    unfold ratQ; rw[if_pos h0]; simp only[Rat.div_def,Cq.mk.injEq]; constructor<;>grind
   rw[e]; exact hx
 . have h0:r.den≠0:=by simpa using h0
   refine(num_New_spec a1 a2 b1 b2 c1 c2 h0).mono λv V1 _ ⟨x,hv,hx⟩=>⟨x,0,hv,x,rfl,?_⟩
   unfold ratQ; rw[if_neg h0]; exact hx
theorem law1_List_spec{V:View}{s:Sl}{rs:List RatV}(h:RatsAt V s rs)(hi:∀r∈rs,ratI r)(hn:rs.length<=2^32) :
 CallV Try.prog n_law1_List #[s.v] V λv V'=>∃r:Sl,v=r.v/\NumsAt V' r (rs.map ratQ):=by
 have hl:=h.len
 let f:Nat->Cq:=λi=>nth (rs.map ratQ) i
 refine law1_List_vc s V _ (λ_ x V'=>0<=x.t11/\x.t11<=s.len/\NumsIn V' x.o8 (filled s.len x.t11.toNat f)) (λ_ x _=>s.len-x.t11.toNat)
  ⟨⟨by omega,by omega,by omega,by omega⟩,⟨by simp,by simp,?_⟩,?_⟩
 . simp only[Int.toNat_zero,filled_zero,Int.toNat_natCast]; exact NumsIn.zeros _ _
 rintro⟨t,o⟩ V1 l1 ⟨h0,h1,ho⟩
 simp only at h0 h1 ho ⊢
 refine⟨λhlt => ?_,λhge => ?_⟩
 . simp only[decide_eq_true_eq]at hlt
   have hk:t.toNat<rs.length:=by omega
   obtain⟨hb,x,hx,_,hh,hs⟩:=(h.le l1).get h0 (z:=rs[t.toNat]) (by simp[hk])
   refine⟨hb,rs[t.toNat],hx▸hh,hs,(law1_Of_spec (hi _ (List.getElem_mem _))).mono λv V2 l2 ⟨r,hv,hr⟩=>⟨r,hv,⟨h0,by simpa using hlt⟩,?_,?_⟩⟩
   . exact Cells.room ho (by rw[filled_length (by omega)]; omega)
   . have e:IntKind.i64.wrap (t+1)=t+1:=i64w (by omega) (by omega)
     have e2:(t+1).toNat=t.toNat+1:=by omega
     have ef:f t.toNat=ratQ rs[t.toNat]:=by simp[f,nth,List.getD,hk]
     refine⟨⟨by rw[e]; omega,by rw[e]; omega,?_⟩,by simp only[e,e2]; omega⟩
     simp only[e,e2]
     rw[<-filled_set (by omega),ef]
     exact(ho.le l2).set (by rw[filled_length (by omega)]; omega) hr
 . simp only[decide_eq_false_iff_not]at hge
   intro b V3 l3 hb
   have e:t.toNat=s.len:=by omega
   rw[e,filled_all]at ho
   have e2:(List.range s.len).map f=rs.map ratQ:=by
    have:=list_of_nth (rs.map ratQ)
    rw[List.length_map]at this
    rw[hl]; exact this
   rw[e2]at ho
   exact⟨_,rfl,ListAt.of_made hb (ho.le l3) (by simp[hl])⟩
theorem oneCell_num(r:NumV):∀v∈[Value.bool r.re.neg,r.re.mag.v,Value.bool r.im.neg,r.im.mag.v,r.under.v],Value.oneCell' v=true:=by
 intro v hv
 simp only[List.mem_cons,List.not_mem_nil,or_false]at hv
 rcases hv with rfl|rfl|rfl|rfl|rfl<;>rfl
theorem has_block{V:View}{b:Nat}{l:List Value}(h:V b=some l.toArray):V.has (some (Addr.mk b 0 none)) l:=by
 intro j v hj
 rw[load_block h]; simpa using hj
theorem transform_every_spec{V:View}{s:Sl}{zs:List Cq}{a:Int}(h:NumsAt V s zs)(ha:0<=a)(ha1:a<=1)(hn:zs.length<=2^32)(hn1:1<=zs.length) :
 CallV Try.prog n_transform_every_num_Num_ #[s.v,.int .i64 a] V λv V'=>∃r:Sl,v=r.v/\NumsAt V' r (everyF zs a.toNat):=by
 have hl:=h.len
 refine transform_every_num_Num__vc s a V _ (λ_ x V'=>∃l,x.t6=a+2*x.t5l/\2*x.t5l+a.toNat<=zs.length+1/\LstOk 5 x.t5l x.t5c x.o5 l/\NumsIn V' l ((List.range x.t5l).map λk=>nth zs (a.toNat+2*k)))
  (λ_ x _=>zs.length+2-2*x.t5l) ⟨⟨[],by simp,by simp; omega,LstOk.nil,rfl⟩,?_⟩
 rintro⟨n,c,t,o⟩ V1 l1 ⟨l,ht,hm,hlo,hin⟩
 simp only at ht hm hlo hin ⊢
 refine⟨λhlt => ?_,λhge => ?_⟩
 . simp only[decide_eq_true_eq]at hlt
   obtain⟨hb,x,hx,hs,hnx⟩:=(h.le l1).get (t:=t) (by omega) (by omega)
   refine⟨hb,x,hx,hs,λb V2 l2 hf hV2 => ?_⟩
   refine⟨l,_,hlo,has_block (l:=[.bool x.re.neg,x.re.mag.v,.bool x.im.neg,x.im.mag.v,x.under.v]) hV2,rfl,oneCell_num x,?_,?_,λc1 l3 hl3 => ?_⟩
   . simp only[maxLen]; omega
   . omega
   . have e:IntKind.i64.wrap (t+2)=t+2:=i64w (by omega) (by omega)
     refine⟨⟨_,by rw[e]; simp; omega,by omega,hl3,?_⟩,by omega⟩
     rw[<-push_range]
     have e3:a.toNat+2*n=t.toNat:=by omega
     rw[e3]
     exact(hin.le l2).push (hnx.le l2)
 . simp only[decide_eq_false_iff_not]at hge
   intro b V3 l3 hb
   refine⟨_,rfl,?_⟩
   have e:n=(zs.length+1-a.toNat) / 2:=by omega
   unfold everyF
   rw[<-e]
   exact ListAt.of_lst hlo hb (hin.le l3) (by simp)
theorem transform_stage_owned:∀(m:Nat) {V:View} {p w:Sl} {zs ws:List Cq} (S T:Nat),m<=6->zs.length=2^m->ws.length=2^m->NumsAt V p zs->NumsAt V w ws ->
 (∀i,i<2^m->(nth zs i).sz<=S)->(∀i,i<2^m->(nth ws i).sz<=T)->2^m*(S+T+2)<=2^39 ->
 CallO Try.prog n_transform_stage_num_Num_ #[p.v,w.v] TN_num_Num V λn cap l rest V'=>n=(stageF m zs ws).length/\cap=n/\rest=[]/\NumsIn V' l (stageF m zs ws)
 | m,V,p,w,zs,ws,S,T,hm,hz,hw,hp,hq,hS,hT,hsz=>by
   have hpl:=hp.len
   have hwl:=hq.len
   have hpow:2^m<=64:=Nat.pow_le_pow_right (n:=2) (by omega) hm
   have hpos:0<2^m:=Nat.pow_pos (by omega)
   rw[stageF_length]
   refine transform_stage_num_Num__vc p w V _ (λc x V'=>∃m' zs' ws',m=m'+1/\zs'=stageF m' (everyF zs 0) (everyF ws 0)/\ws'=stageF m' (everyF zs 1) (everyF ws 0) /\
    NumsAt V' c.t8 zs'/\NumsAt V' c.t9 ws'/\0<=x.t36/\x.t36<=(2^m':Nat) /\
    NumsIn V' x.o15 (halves (2^m') x.t36.toNat (λi=>nth zs' i+nth ws' i*nth ws i) (λi=>nth zs' i-nth ws' i*nth ws i)))
    (λ_ x _=>2^m-x.t36.toNat) ⟨⟨by omega,by omega,by omega,by omega⟩,λh1 => ?_,λh1 => ?_⟩
   . have h1:p.len=1:=by have:(p.len:Int)=1:=(by simpa using h1); omega
     have hm0:m=0:=by
      rcases Nat.eq_zero_or_pos m with h|h
      . exact h
      . have:2^1<=2^m:=Nat.pow_le_pow_right (by omega) h
        omega
     subst hm0
     obtain⟨hb,x,hx,hs,hnx⟩:=hp.get (t:=0) (by omega) (by simp[hz])
     have hset:=(NumsIn.zeros V 1).set (i:=0) (by simp) hnx
     refine⟨hb,x,hx,hs,⟨by omega,by omega⟩,?_,?_,?_⟩
     . simp[h1]
     . refine⟨by simp[h1],?_⟩
       intro e
       have h5:=Cells.length hset
       simp only[h1]at e
       have h6:(0:Nat)=5:=(congrArg List.length e).symm.trans h5
       omega
     . refine⟨by simp[h1],rfl,rfl,?_⟩
       simp only[h1]
       exact hset
   . have h1:p.len≠1:=by intro e; simp[e]at h1
     obtain ⟨m', rfl⟩ : ∃ m', m = m' + 1 := ⟨m - 1, by rcases Nat.eq_zero_or_pos m with h | h; · subst h; simp at hz; omega
                                                       . omega⟩
     have hp2:2^(m'+1)=2*2^m':=by rw[Nat.pow_succ]; omega
     have hmul:2^(m'+1)*(S+T+2)=2*(2^m'*(S+T+2)):=by rw[hp2,Nat.mul_assoc]
     have bz:∀a,a<=1->∀i,i<2^m'->(nth (everyF zs a) i).sz<=S:=by
      intro a ha i hi; rw[everyF_nth (by omega)]; exact hS _ (by omega)
     have bw:∀i,i<2^m'->(nth (everyF ws 0) i).sz<=T:=by
      intro i hi; rw[everyF_nth (by omega)]; exact hT _ (by omega)
     refine(transform_every_spec hq (Int.le_refl 0) (by omega) (by omega) (by omega)).mono λv V1 l1 ⟨r1,hv,hr1⟩=>⟨r1,hv,?_⟩
     refine(transform_every_spec (hp.le l1) (Int.le_refl 0) (by omega) (by omega) (by omega)).mono λv V2 l2 ⟨r2,hv,hr2⟩=>⟨r2,hv,?_⟩
     have ne:∀zs ws,stageF m' zs ws≠[]:=by
      intro zs ws e
      have:=stageF_length m' zs ws
      rw[e]at this; simp at this
      have:0<2^m':=Nat.pow_pos (by omega)
      omega
     refine(CallO.nums (ne _ _) (transform_stage_owned m' S T (by omega) (by simp[everyF_length]; omega) (by simp[everyF_length]; omega) hr2 (hr1.le l2) (bz 0 (by omega)) bw (by omega))).mono λv V3 l3 ⟨r3,hv,hr3⟩=>⟨r3,hv,?_⟩
     refine(transform_every_spec (hp.le (View.le_trans l1 (View.le_trans l2 l3))) (a:=1) (by omega) (by omega) (by omega) (by omega)).mono λv V4 l4 ⟨r4,hv,hr4⟩=>⟨r4,hv,?_⟩
     refine(CallO.nums (ne _ _) (transform_stage_owned m' S T (by omega) (by simp[everyF_length]; omega) (by simp[everyF_length]; omega) hr4 (hr1.le (View.le_trans l2 (View.le_trans l3 l4))) (bz 1 (by omega)) bw (by omega))).mono λv V5 l5 ⟨r5,hv,hr5⟩=>⟨r5,hv,?_⟩
     have le5:View.le V V5:=View.le_trans l1 (View.le_trans l2 (View.le_trans l3 (View.le_trans l4 l5)))
     have hdiv:IntKind.i64.wrap (Int.tdiv (p.len:Int) 2)=((2^m':Nat):Int):=by
      have e:Int.tdiv (p.len:Int) 2=((2^m':Nat):Int):=by
       rw[Int.tdiv_eq_ediv_of_nonneg (by omega)]; omega
      rw[e]; exact i64w (by omega) (by omega)
     rw[hdiv]
     refine⟨⟨m',_,_,rfl,rfl,rfl,hr3.le (View.le_trans l4 l5),hr5,Int.le_refl 0,Int.natCast_nonneg _,?_⟩,?_⟩
     . simp only[Int.toNat_zero,halves_zero,Int.toNat_natCast,hpl,hz,hp2]
       exact NumsIn.zeros _ _
     rintro⟨t,o⟩ V6 l6 ⟨m2,zs',ws',em,rfl,rfl,h8,h9,h0,h1',hin⟩
     have em:m'=m2:=by omega
     subst em
     simp only at h8 h9 h0 h1' hin ⊢
     have lz:=stageF_length m' (everyF zs 0) (everyF ws 0)
     have lw:=stageF_length m' (everyF zs 1) (everyF ws 0)
     have l8:=h8.len
     have l9:=h9.len
     have lo:∀k a b,(halves (2^m') k a b).length=2*2^m':=by intro k a b; simp[halves]
     refine⟨λhlt => ?_,λhge => ?_⟩
     . simp only[decide_eq_true_eq]at hlt
       have hk:t.toNat<2^m':=by omega
       obtain⟨hb4,x4,hx4,hs4,hn4⟩:=h9.get h0 (by omega)
       obtain⟨hb5,x5,hx5,hs5,hn5⟩:=(hq.le (View.le_trans le5 l6)).get h0 (by omega)
       have sE:=stageF_sz m' (everyF zs 0) (everyF ws 0) S T (by simp[everyF_length]; omega) (by simp[everyF_length]; omega) (bz 0 (by omega)) bw t.toNat hk
       have sO:=stageF_sz m' (everyF zs 1) (everyF ws 0) S T (by simp[everyF_length]; omega) (by simp[everyF_length]; omega) (bz 1 (by omega)) bw t.toNat hk
       have sW:=hT t.toNat (by omega)
       have hm2:S+T+2<=2^m'*(S+T+2):=Nat.le_mul_of_pos_left _ (Nat.pow_pos (by omega))
       have sU:=Cq.sz_mul (nth (stageF m' (everyF zs 1) (everyF ws 0)) t.toNat) (nth ws t.toNat)
       refine⟨hb4,x4,hx4,hs4,hb5,x5,hx5,hs5,(Num_Mul_spec hn4 hn5 (by omega) (by omega)).mono λv V7 l7 ⟨r6,hv,hr6⟩=>⟨r6,hv,?_⟩⟩
       obtain⟨hb6,x6,hx6,hs6,hn6⟩:=(h8.le l7).get h0 (by omega)
       refine⟨hb6,x6,hx6,hs6,hb6,x6,hx6,hs6,(Num_Add_spec hn6 hr6 (by omega) (by omega)).mono λv V8 l8' ⟨r7,hv,hr7⟩=>⟨r7,hv,?_⟩⟩
       refine(Num_Sub_spec (hn6.le l8') (hr6.le l8') (by omega) (by omega)).mono λv V9 l9' ⟨r8,hv,hr8⟩=>⟨r8,hv,⟨h0,?_⟩,?_,?_⟩
       . omega
       . exact Cells.room hin (by rw[lo]; omega)
       have ek:IntKind.i64.wrap (t+((2^m':Nat):Int))=t+((2^m':Nat):Int):=i64w (by omega) (by omega)
       have ek2:Int.toNat (t+((2^m':Nat):Int))=t.toNat+2^m':=by omega
       have et:IntKind.i64.wrap (t+1)=t+1:=i64w (by omega) (by omega)
       have et2:(t+1).toNat=t.toNat+1:=by omega
       rw[ek,ek2]
       have in9:=hin.le (View.le_trans l7 (View.le_trans l8' l9'))
       have s1:=in9.set (i:=t.toNat) (by rw[lo]; omega) (hr7.le l9')
       have s2:=s1.set (i:=t.toNat+2^m') (by rw[List.length_set,lo]; omega) hr8
       refine⟨⟨by omega,by omega⟩,?_,⟨m',_,_,rfl,rfl,rfl,h8.le (View.le_trans l7 (View.le_trans l8' l9')),h9.le (View.le_trans l7 (View.le_trans l8' l9')),by rw[et]; omega,by rw[et]; omega,?_⟩,by simp only[et,et2]; omega⟩
       . exact Cells.room s1 (by rw[List.length_set,lo]; omega)
       . simp only[et,et2]
         rw[<-halves_set hk]
         exact s2
     . simp only[decide_eq_false_iff_not]at hge
       have e:t.toNat=2^m':=by omega
       rw[e]at hin
       have e2:halves (2^m') (2^m') (λi=>nth (stageF m' (everyF zs 0) (everyF ws 0)) i+nth (stageF m' (everyF zs 1) (everyF ws 0)) i*nth ws i)
        (λi=>nth (stageF m' (everyF zs 0) (everyF ws 0)) i-nth (stageF m' (everyF zs 1) (everyF ws 0)) i*nth ws i)=stageF (m'+1) zs ws:=by
        have h2:=list_of_nth (stageF (m'+1) zs ws)
        rw[stageF_length]at h2
        rw[<-h2]
        unfold halves
        rw[<-hp2]
        apply List.map_congr_left
        intro i hi
        have hi:i<2^(m'+1):=by simpa using hi
        rw[stageF,nth_map hi]
        split
        . rfl
        . rw[if_pos (by omega)]
       rw[e2]at hin
       refine⟨⟨by omega,?_⟩,by omega,by simp,by simp,hin⟩
       intro eo
       subst eo
       have:=Cells.length hin
       rw[stageF_length]at this
       simp at this; omega
end Go.Proofs.Ytfdaofhjkdabbaa
namespace Go.Proofs.Ytfdaofhjkdabbaa
open Go Go.Vc Go.Proofs Go.ChangeShapes Go.RowKit
structure RatTy (P:Program) (t:TypeId):Prop where
 fields:∃f0 f1 f2:Field,P.underlying t=some (.struct #[f0,f1,f2])/\(f0.offset=0/\f1.offset=1/\f2.offset=2) /\
  (P.underlying f0.type=some (.int .i64)/\P.underlying f1.type=some (.int .i64)/\P.underlying f2.type=some (.int .i64))/\(P.cellsOf f0.type=1/\P.cellsOf f1.type=1/\P.cellsOf f2.type=1)
 cells:P.cellsOf t=3
section
variable {H:Type} {enc:TypeId×Value->H} {P:Program} {w:World} {base:Nat} {spare:Nat->Bool} {held:Bool}
theorem trod_rat{t:TypeId}{fuel:Nat}{cs:List Value}{x:DataW H×List MemPlace}(ht:RatTy P t)(h:DataW.trod enc P w base spare held fuel t cs=some x):∃r:RatV,ratI r/\cs=r.val.cells.toList:=by
 obtain⟨f0,f1,f2,hR,⟨o0,o1,o2⟩,⟨i0,i1,i2⟩,c0,c1,c2⟩:=ht.fields
 obtain⟨xs,n,_,_,hl,hxs,hf⟩:=DataW.trod_struct hR h
 rw[ht.cells]at hl
 match cs,hl with
 | [a,b,c],_ =>
   have g0:=hf 0 f0 rfl
   have g1:=hf 1 f1 rfl
   have g2:=hf 2 f2 rfl
   rw[o0,c0]at g0
   rw[o1,c1]at g1
   rw[o2,c2]at g2
   have hs:xs.length=3:=hxs
   match xs,hs with
   | [y0, y1, y2], _ =>
     obtain⟨n0,e0,_,w0⟩:=DataW.trod_int i0 g0
     obtain⟨n1,e1,_,w1⟩:=DataW.trod_int i1 g1
     obtain⟨n2,e2,_,w2⟩:=DataW.trod_int i2 g2
     simp at e0 e1 e2
     subst e0; subst e1; subst e2
     exact⟨⟨n0,n1,n2⟩,⟨bounds_i64 w0,bounds_i64 w1,bounds_i64 w2⟩,rfl⟩
end
theorem CallV.fits{P:Program}{f:FuncId}{args:Array Value}{r:Value}{V:View}(h:CallV P f args V λv _=>v=r){w:World}(hw:V.In w) :
 Calls P f args w λe w'=>e = .returned r/\Below w.heap.size w w' :=
 (h w hw).mono λ_ _ ⟨_,_,he,_,_,_,hb,hr⟩=>⟨by rw[he,hr],hb⟩
theorem trodAll_below{H:Type}{enc:TypeId×Value->H}{P:Program}(hl:laidOutB P=true){W W':World}(hb:Below W.heap.size W W') :
 ∀ {ts:List TypeId} {vs:List Value} {ds:List (DataW H)} {ps:List MemPlace},(∀t∈ts,P.readableRec t=true/\t<P.types.size)->(∀p∈ps,p.block<W.heap.size) ->
 DataW.TrodAll enc P W 0 (λ_=>true) true ts vs ds ps->DataW.TrodAll enc P W' 0 (λb=>decide (b<W.heap.size)) true ts vs ds ps
 | [],[],[],_,_,_,h=>h
 | t::ts,v::vs,d::ds,ps,ht,hlt,⟨p,q,h1,h2,e⟩=>by
   subst e
   exact⟨p,q,Below.trod hl (ht t (by simp)).1 (ht t (by simp)).2 h1 hb (λx hx=>hlt x (by simp[hx])),
    trodAll_below hl hb (λt' ht'=>ht t' (by simp[ht'])) (λx hx=>hlt x (by simp[hx])) h2,rfl⟩
 | [],[],_::_,_,_,_,h=>h.elim
 | [],_::_,_,_,_,_,h=>h.elim
 | _::_,[],_,_,_,_,h=>h.elim
 | _::_,_::_,[],_,_,_,h=>h.elim
theorem post_of_read{H:Type}{enc:TypeId×Value->H}{P:Program}{f:Func}{s:ChangeSpec}{apart fresh handsOn:Bool}{W W':World}{args:Array Value}{v:Value}{ds:List (DataW H)}{before:List MemPlace}
 (hl:laidOutB P=true) (ht:∀t∈f.params.toList,P.readableRec t=true/\t<P.types.size)
 (hW:DataW.Whole enc P f.params.toList s.vars apart W args.toList ds [] before) (hA:DataW.TrodAll enc P W 0 (λ_=>true) true f.params.toList args.toList ds before)
 (hres:∀(b:Nat) (sp:Nat->Bool) (hd:Bool),DataW.TrodAll enc P W' b sp hd f.resultTypes.toList (v.resultList f.resultTypes.size) (s.fn H (ds++[])).results [])
 (hargs:(s.fn H (ds++[])).args=ds) (hvars:∀sp:Nat->Bool,DataW.TrodVars enc P W' sp s.vars (s.fn H (ds++[])).vars []) (hb:Below W.heap.size W W'):s.post enc P f apart fresh handsOn false W args v W':=by
 refine⟨ds,[],before,[],before,[],hW,hres _ _ _,?_,hvars _,World.keptBut_mono (λp hp=>⟨hp,.inr (.inl hp)⟩) (hb.frame (·∈before)),λh=>Bool.noConfusion h⟩
 rw[hargs]
 exact trodAll_below hl hb ht (λp hp=>hW.lt p hp) hA
def worldView(w:World):View:=λb=>match w.heap[b]? with|some (.cells cs _ _)=>some cs|_=>none
theorem worldView_in(w:World):(worldView w).In w:=by
 intro i cs hi
 unfold worldView at hi
 split at hi
 . rename_i cs' T fr hw
   simp at hi; subst hi
   exact⟨T,fr,hw⟩
 . simp at hi
theorem worldView_load{w:World}{p:Addr}{v:Value}(h:w.cell? p=some v):(worldView w).load (some p)=some v:=by
 unfold World.cell? at h
 unfold View.load worldView
 split at h
 . rename_i c T fr hw
   simp only[hw]
   split at h
   . simp at h
   . rename_i hs
     simp only[hs]
     simpa using h
 . simp at h
section
variable {H:Type} {enc:TypeId×Value->H} {P:Program} {w:World} {base:Nat} {spare:Nat->Bool} {held:Bool}
theorem trod_list{α:Type}{sz:Nat}{t e:TypeId}(ht:P.underlying t=some (.slice e))(hc:P.cellsOf e=sz)(ok:α->Prop)(E:View->List Value->α->Prop)
 (he:∀ {fuel:Nat} {cs:List Value} {x:DataW H×List MemPlace},DataW.trod enc P w base spare held fuel e cs=some x->∃z,ok z/\E (worldView w) cs z)
 {fuel:Nat} {cs:List Value} {x:DataW H×List MemPlace} (h:DataW.trod enc P w base spare held fuel t cs=some x) :
 ∃(s:Sl) (zs:List α),cs=[s.v]/\ListAt sz E (worldView w) s zs/\zs.length<=maxLen/\∀z∈zs,ok z:=by
 rcases Go.Deep.open_slice ht h with⟨h1,_⟩|⟨a,l0,c0,m,n,D,Pl,h1,_,hl,hm,hmm,_,hx⟩
 . subst h1
   exact⟨Sl.mk none 0 0,[],rfl,ListAt.nil,Nat.zero_le _,by intro r hr; simp at hr⟩
 . subst h1
   have hlm:l0<=m:=by rw[hmm]; split<;>omega
   have key:∀k,k<=l0->∃(rs:List α) (o:List Value),rs.length=k/\(∀r∈rs,ok r)/\Cells sz E (worldView w) o rs/\(worldView w).has (some a) o:=by
    intro k
    induction k with
    | zero=>intro _; exact⟨[],[],rfl,by intro r hr; simp at hr,rfl,by intro j v hj; simp at hj⟩
    | succ k ih =>
      intro hk
      obtain⟨rs,o,hrl,hri,hcs,ho⟩:=ih (by omega)
      obtain⟨cs',g1,g2⟩:=hx k (by omega)
      obtain⟨r,hr,er⟩:=he g2
      rw[hc]at g1
      obtain⟨_,hcl,hcell⟩:=World.cells?_some g1
      have hol:=hcs.length
      refine⟨rs++[r],o++cs',by simp[hrl],?_,hcs.append (Cells.one hcl er),?_⟩
      . intro x hx
        rcases List.mem_append.1 hx with h|h
        . exact hri x h
        . simp at h; subst h; exact hr
      . intro j v hj
        by_cases hjo:j<o.length
        . rw[List.getElem?_append_left hjo]at hj
          exact ho j v hj
        . rw[List.getElem?_append_right (by omega)]at hj
          have hj3:j-o.length<sz:=by
           rcases Nat.lt_or_ge (j-o.length) cs'.length with h|h
           . omega
           . rw[List.getElem?_eq_none h]at hj; simp at hj
          have hcj:=hcell (j-o.length) hj3
          rw[hj,addr_add2]at hcj
          have e:k*sz+(j-o.length)=j:=by rw[hol,hrl]; rw[hol,hrl]at hjo; omega
          rw[e]at hcj
          exact worldView_load hcj
   obtain⟨rs,o,hrl,hri,hcs,ho⟩:=key l0 (Nat.le_refl _)
   exact⟨Sl.mk (some a) l0 c0,rs,rfl,⟨hrl.symm,hl,λ_=>rfl,o,ho,hcs⟩,by omega,hri⟩
theorem one_of_cells{v x:Value}(h:v.cells.toList=[x])(hv:∃a l c,v = .slice a l c):v=x:=by
 obtain⟨a,l,c,rfl⟩:=hv
 simpa [Value.cells]using h
theorem open_ratsW{t e:TypeId}{v:Value}{d:DataW H}{ps:List MemPlace}(ht:P.underlying t=some (.slice e))(he:RatTy P e)(hv:∃a l c,v = .slice a l c)(h:DataW.Trod enc P w base spare held t v d ps) :
 ∃(s:Sl) (rs:List RatV),v=s.v/\RatsAt (worldView w) s rs/\rs.length<=maxLen/\∀r∈rs,ratI r:=by
 obtain⟨fuel,h⟩:=h
 obtain⟨s,zs,e1,h1,h2,h3⟩:=trod_list ht he.cells ratI ratC (λg=>trod_rat he g) h
 exact⟨s,zs,one_of_cells e1 hv,h1,h2,h3⟩
end
end Go.Proofs.Ytfdaofhjkdabbaa
namespace Go.Proofs.Ytfdaofhjkdabbaa
open Go Go.Vc Go.Proofs
def fastL(zs ws:List Cq):List Cq:=stageF (Nat.log2 ws.length) zs ws
def backL(zs ws:List Cq):List Cq:=sharesF (stageF (Nat.log2 ws.length) zs (conjF ws))
theorem log2_pow(m:Nat):Nat.log2 (2^m)=m:=by simp
def okSz(S:Nat)(zs:List Cq):Prop:=∀z∈zs,z.sz<=S
theorem okSz.at{S:Nat}{zs:List Cq}(h:okSz S zs)(h1:1<=S)(i:Nat):(nth zs i).sz<=S:=by
 rcases Nat.lt_or_ge i zs.length with g|g
 . exact h _ (List.mem_of_getElem? (nth_get g))
 . have:nth zs i=Cq.zero:=by unfold nth; simp[List.getD,List.getElem?_eq_none g]
   rw[this]
   exact Nat.le_trans Cq.sz_zero h1
theorem okSz.of{S:Nat}{zs:List Cq}(h:∀i,i<zs.length->(nth zs i).sz<=S):okSz S zs:=λz hz=>by
 obtain⟨i,hi,e⟩:=List.getElem_of_mem hz
 have:=h i hi
 have e2:nth zs i=z:=by unfold nth; simp[List.getD,hi,e]
 rw[e2]at this; exact this
theorem fastL_length{zs ws:List Cq}{m:Nat}(hw:ws.length=2^m):(fastL zs ws).length=2^m:=by unfold fastL; rw[hw,log2_pow,stageF_length]
theorem backL_length{zs ws:List Cq}{m:Nat}(hw:ws.length=2^m):(backL zs ws).length=2^m:=by unfold backL; rw[hw,log2_pow,sharesF_length,stageF_length]
theorem fastL_sz{zs ws:List Cq}{m S T:Nat}(hm:m<=6)(hz:zs.length=2^m)(hw:ws.length=2^m)(hS:okSz S zs)(hT:okSz T ws)(s1:1<=S)(t1:1<=T):okSz (64*(S+T+2)) (fastL zs ws):=by
 refine okSz.of λi hi => ?_
 rw[fastL_length hw]at hi
 unfold fastL; rw[hw,log2_pow]
 have:=stageF_sz m zs ws S T hz hw (λi _=>hS.at s1 i) (λi _=>hT.at t1 i) i hi
 have h2:2^m<=2^6:=Nat.pow_le_pow_right (by omega) hm
 have:=Nat.mul_le_mul_right (S+T+2) h2
 omega
theorem backL_sz{zs ws:List Cq}{m S T:Nat}(hm:m<=6)(hz:zs.length=2^m)(hw:ws.length=2^m)(hS:okSz S zs)(hT:okSz T ws)(s1:1<=S)(t1:1<=T):okSz (64*(S+T+2)+9) (backL zs ws):=by
 refine okSz.of λi hi => ?_
 rw[backL_length hw]at hi
 unfold backL; rw[hw,log2_pow]
 have hl:=stageF_length m zs (conjF ws)
 have h2:2^m<=2^6:=Nat.pow_le_pow_right (by omega) hm
 refine sharesF_sz _ _ (by rw[hl]; omega) (λi hi => ?_) i (by rw[hl]; exact hi)
 rw[hl]at hi
 have hc:=conjF_sz ws T (λi _=>hT.at t1 i)
 rw[hw]at hc
 have:=stageF_sz m zs (conjF ws) S T hz (by rw[conjF_length,hw]) (λi _=>hS.at s1 i) hc i hi
 have:=Nat.mul_le_mul_right (S+T+2) h2
 omega
def tranL(back:Bool)(zs ws:List Cq):List Cq:=if back=true then backL zs ws else fastL zs ws
theorem tranL_length{back:Bool}{zs ws:List Cq}{m:Nat}(hw:ws.length=2^m):(tranL back zs ws).length=2^m:=by
 unfold tranL; split
 . exact backL_length hw
 . exact fastL_length hw
theorem tranL_sz{back:Bool}{zs ws:List Cq}{m S T:Nat}(hm:m<=6)(hz:zs.length=2^m)(hw:ws.length=2^m)(hS:okSz S zs)(hT:okSz T ws)(s1:1<=S)(t1:1<=T):okSz (64*(S+T+2)+9) (tranL back zs ws):=by
 unfold tranL; split
 . exact backL_sz hm hz hw hS hT s1 t1
 . exact λz hz'=>Nat.le_trans (fastL_sz hm hz hw hS hT s1 t1 z hz') (by omega)
theorem lenB_pow2{n:Nat}(h:lenB n=true):∃m,m<=6/\n=2^m:=by
 have hmem:n∈[1,2,4,8,16,32,64]:=by unfold lenB at h; exact List.contains_iff_mem.1 h
 simp only[List.mem_cons,List.not_mem_nil,or_false]at hmem
 rcases hmem with h|h|h|h|h|h|h
 . exact⟨0,by omega,h⟩
 . exact⟨1,by omega,h⟩
 . exact⟨2,by omega,h⟩
 . exact⟨3,by omega,h⟩
 . exact⟨4,by omega,h⟩
 . exact⟨5,by omega,h⟩
 . exact⟨6,by omega,h⟩
def bothOk(rows:List (List Cq))(ws vs:List Cq):Bool:=lenB ws.length&&(lenB vs.length&&(decide (gcols rows=ws.length)&&decide (rows.length=vs.length)))
def bothE(rows:List (List Cq))(ws vs:List Cq):Int:=if bothOk rows ws vs=true then 0 else 4
def bothF(back:Bool)(rows:List (List Cq))(ws vs:List Cq):List (List Cq) :=
 turnG Cq.zero ((turnG Cq.zero (rows.map λrow=>tranL back row ws)).map λrow=>tranL back row vs)
def bothR(back:Bool)(rows:List (List Cq))(ws vs:List Cq):List (List Cq):=if bothOk rows ws vs=true then bothF back rows ws vs else []
def okRows(S:Nat)(rows:List (List Cq)):Prop:=∀row∈rows,okSz S row
theorem turnG_sz{S:Nat}{rows:List (List Cq)}(h:okRows S rows)(h1:1<=S):okRows S (turnG Cq.zero rows):=by
 intro row hr z hz
 unfold turnG matL at hr
 obtain⟨j,_,rfl⟩:=List.mem_map.1 hr
 unfold rowL at hz
 obtain⟨i,hi,rfl⟩:=List.mem_map.1 hz
 have hi:i<rows.length:=by simpa using hi
 exact(h _ (List.mem_of_getElem? (getD_get hi []))).at h1 j
theorem map_rect{rows:List (List Cq)}{f:List Cq->List Cq}{n:Nat}(h:∀row∈rows,(f row).length=n):Rect (rows.map f)/\(0<rows.length->gcols (rows.map f)=n):=by
 cases rows with
 | nil=>exact⟨λrow hr=>by simp at hr,λh=>by simp at h⟩
 | cons a l =>
   have e:gcols ((a::l).map f)=n:=by simpa [gcols]using h a (by simp)
   refine⟨λrow hr => ?_,λ_=>e⟩
   rw[e]
   obtain⟨r,hr2,rfl⟩:=List.mem_map.1 hr
   exact h r hr2
structure Mid (rows:List (List Cq)) (n m:Nat):Prop where
 rect:Rect rows
 len:rows.length=2^n
 cols:gcols rows=2^m
theorem Mid.row{rows:List (List Cq)}{n m:Nat}(h:Mid rows n m):∀row∈rows,row.length=2^m:=λrow hr=>by rw[h.rect row hr,h.cols]
theorem Mid.map{rows:List (List Cq)}{n m:Nat}(h:Mid rows n m)(back:Bool){ws:List Cq}(hw:ws.length=2^m):Mid (rows.map λrow=>tranL back row ws) n m:=by
 obtain⟨h1,h2⟩:=map_rect (rows:=rows) (f:=λrow=>tranL back row ws) (n:=2^m) λrow _=>tranL_length hw
 exact⟨h1,by rw[List.length_map,h.len],h2 (by rw[h.len]; exact Nat.pow_pos (by omega))⟩
theorem Mid.turn{rows:List (List Cq)}{n m:Nat}(h:Mid rows n m):Mid (turnG Cq.zero rows) m n :=
 ⟨turnG_rect _ _,by rw[turnG_length,h.cols],by rw[turnG_cols _ (by rw[h.cols]; exact Nat.pow_pos (by omega)),h.len]⟩
theorem bothOk_mid{rows:List (List Cq)}{ws vs:List Cq}(h:bothOk rows ws vs=true)(hr:Rect rows):∃n m,n<=6/\m<=6/\ws.length=2^m/\vs.length=2^n/\Mid rows n m:=by
 unfold bothOk at h
 simp only[Bool.and_eq_true,decide_eq_true_eq]at h
 obtain⟨h1,h2,h3,h4⟩:=h
 obtain⟨m,hm,e1⟩:=lenB_pow2 h1
 obtain⟨n,hn,e2⟩:=lenB_pow2 h2
 exact⟨n,m,hn,hm,e1,e2,hr,by rw[h4,e2],by rw[h3,e1]⟩
theorem map_sz{rows:List (List Cq)}{n m S T:Nat}(h:Mid rows n m)(hm:m<=6)(back:Bool){ws:List Cq}(hw:ws.length=2^m)(hS:okRows S rows)(hT:okSz T ws)(s1:1<=S)(t1:1<=T) :
 okRows (64*(S+T+2)+9) (rows.map λrow=>tranL back row ws):=by
 intro row hr
 obtain⟨r,hr2,rfl⟩:=List.mem_map.1 hr
 exact tranL_sz hm (h.row r hr2) hw (hS r hr2) hT s1 t1
theorem bothF_mid{rows:List (List Cq)}{n m:Nat}(h:Mid rows n m)(back:Bool){ws vs:List Cq}(hw:ws.length=2^m)(hv:vs.length=2^n):Mid (bothF back rows ws vs) n m:=(((h.map back hw).turn).map back hv).turn
theorem bothF_sz{rows:List (List Cq)}{n m S T:Nat}(h:Mid rows n m)(hn:n<=6)(hm:m<=6)(back:Bool){ws vs:List Cq}(hw:ws.length=2^m)(hv:vs.length=2^n)(hS:okRows S rows)(hT:okSz T ws)(hT2:okSz T vs)(s1:1<=S)(t1:1<=T) :
 okRows (64*(64*(S+T+2)+9+T+2)+9) (bothF back rows ws vs):=by
 have a1:=turnG_sz (map_sz h hm back hw hS hT s1 t1) (by omega)
 exact turnG_sz (map_sz ((h.map back hw).turn) hn back hv a1 hT2 (by omega) t1) (by omega)
structure Lin (F:(Nat->Cq)->Cq):Prop where
 add:∀f g,F (λi=>f i+g i)=F f+F g
 sub:∀f g,F (λi=>f i-g i)=F f-F g
 mul:∀f c,F (λi=>f i*c)=F f*c
def stg:Nat->(Nat->Cq)->List Cq->Nat->Cq
 | 0,f,_,_=>f 0
 | m+1,f,ws,i =>
   if i<2^m then stg m (λk=>f (2*k)) (everyF ws 0) i+stg m (λk=>f (1+2*k)) (everyF ws 0) i*nth ws i
   else stg m (λk=>f (2*k)) (everyF ws 0) (i-2^m)-stg m (λk=>f (1+2*k)) (everyF ws 0) (i-2^m)*nth ws (i-2^m)
theorem stg_congr:∀(m:Nat) {f g:Nat->Cq} (ws:List Cq) (_:∀j,j<2^m->f j=g j) (i:Nat),stg m f ws i=stg m g ws i
 | 0,f,g,ws,h,i=>h 0 (by decide)
 | m+1,f,g,ws,h,i=>by
   have hp:2^(m+1)=2*2^m:=by rw[Nat.pow_succ]; omega
   have e0:=λi=>stg_congr m (f:=λk=>f (2*k)) (g:=λk=>g (2*k)) (everyF ws 0) (λj hj=>h _ (by omega)) i
   have e1:=λi=>stg_congr m (f:=λk=>f (1+2*k)) (g:=λk=>g (1+2*k)) (everyF ws 0) (λj hj=>h _ (by omega)) i
   simp only[stg,e0,e1]
theorem stg_nth:∀(m:Nat) {f:Nat->Cq} {zs:List Cq} (ws:List Cq) (_:zs.length=2^m) (_:∀j,j<2^m->nth zs j=f j) (i:Nat) (_:i<2^m),nth (stageF m zs ws) i=stg m f ws i
 | 0,f,zs,ws,hl,h,i,hi=>by
   have:i=0:=by simp at hi; exact hi
   subst this
   exact h 0 (by decide)
 | m+1,f,zs,ws,hl,h,i,hi=>by
   have hp:2^(m+1)=2*2^m:=by rw[Nat.pow_succ]; omega
   have l0:(zs.length+1-0) / 2=2^m:=by omega
   have l1:(zs.length+1-1) / 2=2^m:=by omega
   have e0:=stg_nth m (f:=λk=>f (2*k)) (zs:=everyF zs 0) (everyF ws 0) (by rw[everyF_length,l0]) (λj hj=>by rw[everyF_nth (by omega),Nat.zero_add]; exact h _ (by omega))
   have e1:=stg_nth m (f:=λk=>f (1+2*k)) (zs:=everyF zs 1) (everyF ws 0) (by rw[everyF_length,l1]) (λj hj=>by rw[everyF_nth (by omega)]; exact h _ (by omega))
   unfold stageF
   rw[nth_map hi]
   unfold stg
   by_cases c:i<2^m
   . rw[if_pos c,if_pos c,e0 i c,e1 i c]
   . rw[if_neg c,if_neg c,e0 _ (by omega),e1 _ (by omega)]
theorem stg_lin{F:(Nat->Cq)->Cq}(hF:Lin F):∀(m:Nat) (G:Nat->Nat->Cq) (ws:List Cq) (k:Nat),F (λi=>stg m (G i) ws k)=stg m (λj=>F (λi=>G i j)) ws k
 | 0,G,ws,k=>rfl
 | m+1,G,ws,k=>by
   have e0:=λk=>stg_lin hF m (λi k=>G i (2*k)) (everyF ws 0) k
   have e1:=λk=>stg_lin hF m (λi k=>G i (1+2*k)) (everyF ws 0) k
   simp only[stg]
   by_cases c:k<2^m
   . simp only[if_pos c]
     rw[hF.add,hF.mul,e0,e1]
   . simp only[if_neg c]
     rw[hF.sub,hF.mul,e0,e1]
theorem cq_mul_add(a b c:Cq):(a+b)*c=a*c+b*c:=Cq.ext' (by simp only[Cq.mul_re,Cq.add_re,Cq.add_im]; grind) (by simp only[Cq.mul_im,Cq.add_re,Cq.add_im]; grind)
theorem cq_mul_sub(a b c:Cq):(a-b)*c=a*c-b*c:=Cq.ext' (by simp only[Cq.mul_re,Cq.sub_re,Cq.sub_im]; grind) (by simp only[Cq.mul_im,Cq.sub_re,Cq.sub_im,Cq.sub_re]; grind)
theorem cq_mul_comm3(a b c:Cq):a*b*c=a*c*b:=Cq.ext' (by simp only[Cq.mul_re,Cq.mul_im]; grind) (by simp only[Cq.mul_re,Cq.mul_im]; grind)
theorem lin_add:Lin λh=>h 0+h 1 :=
 ⟨λf g=>Cq.ext' (by simp only[Cq.add_re]; grind) (by simp only[Cq.add_im]; grind),λf g=>Cq.ext' (by simp only[Cq.add_re,Cq.sub_re]; grind) (by simp only[Cq.add_im,Cq.sub_im]; grind),λf c=>(cq_mul_add _ _ _).symm⟩
theorem lin_sub:Lin λh=>h 0-h 1 :=
 ⟨λf g=>Cq.ext' (by simp only[Cq.add_re,Cq.sub_re]; grind) (by simp only[Cq.add_im,Cq.sub_im]; grind),λf g=>Cq.ext' (by simp only[Cq.sub_re]; grind) (by simp only[Cq.sub_im]; grind),λf c=>(cq_mul_sub _ _ _).symm⟩
theorem lin_mul(c:Cq):Lin λh=>h 0*c:=⟨λf g=>cq_mul_add _ _ _,λf g=>cq_mul_sub _ _ _,λf d=>cq_mul_comm3 _ _ _⟩
def two(f g:Nat->Cq)(i:Nat):Nat->Cq:=if i=0 then f else g
def trn(back:Bool)(m:Nat)(f:Nat->Cq)(ws:List Cq)(i:Nat):Cq:=if back=true then stg m f (conjF ws) i*partQ (2^m)else stg m f ws i
theorem trn_congr{back:Bool}{m:Nat}{f g:Nat->Cq}{ws:List Cq}(h:∀j,j<2^m->f j=g j)(i:Nat):trn back m f ws i=trn back m g ws i:=by
 unfold trn; rw[stg_congr m _ h,stg_congr m _ h]
theorem trn_lin{F:(Nat->Cq)->Cq}(hF:Lin F)(back:Bool)(m:Nat)(G:Nat->Nat->Cq)(ws:List Cq)(k:Nat):F (λi=>trn back m (G i) ws k)=trn back m (λj=>F (λi=>G i j)) ws k:=by
 unfold trn
 cases back
 . exact stg_lin hF m G ws k
 . simp only[if_true]
   rw[hF.mul,stg_lin hF]
theorem trn_Lin(back:Bool)(m:Nat)(ws:List Cq)(k:Nat):Lin λf=>trn back m f ws k :=
 ⟨λf g=>(trn_lin lin_add back m (two f g) ws k).symm,λf g=>(trn_lin lin_sub back m (two f g) ws k).symm,λf c=>(trn_lin (lin_mul c) back m (two f f) ws k).symm⟩
theorem trn_nth{back:Bool}{m:Nat}{f:Nat->Cq}{zs ws:List Cq}(hl:zs.length=2^m)(hw:ws.length=2^m)(h:∀j,j<2^m->nth zs j=f j){i:Nat}(hi:i<2^m):nth (tranL back zs ws) i=trn back m f ws i:=by
 unfold tranL trn backL fastL
 rw[hw,log2_pow]
 cases back
 . exact stg_nth m ws hl h i hi
 . simp only[if_true]
   unfold sharesF
   rw[nth_map (by rw[stageF_length]; exact hi),stageF_length,stg_nth m (conjF ws) hl h i hi]
theorem trn_back{m:Nat}(hm:m<=2)(f:Nat->Cq){k:Nat}(hk:k<2^m):trn true m (λj=>trn false m f (onesF m) j) (onesF m) k=f k:=by
 have ho:(onesF m).length=2^m:=by
  have:m=0\/m=1\/m=2:=by omega
  rcases this with rfl|rfl|rfl<;>rfl
 have hz:(rowL (2^m) f).length=2^m:=rowL_length _ _
 have hf:∀j,j<2^m->nth (rowL (2^m) f) j=f j:=λj hj=>by unfold nth; rw[List.getD_eq_getElem?_getD,rowL_get hj]; rfl
 have e:=back_fwd hm hz
 have hs:(tranL false (rowL (2^m) f) (onesF m)).length=2^m:=tranL_length ho
 have g:=trn_nth (back:=true) (f:=λj=>trn false m f (onesF m) j) hs ho (λj hj=>trn_nth hz ho hf hj) hk
 rw[<-g,<-hf k hk]
 show nth (backL (fastL (rowL (2^m) f) (onesF m)) (onesF m)) k=_
 unfold backL fastL
 rw[ho,log2_pow,e]
theorem mat_map{n m:Nat}(back:Bool)(A:Nat->Nat->Cq){ws:List Cq}(hw:ws.length=2^m):((matL n (2^m) A).map λrow=>tranL back row ws)=matL n (2^m) λi k=>trn back m (A i) ws k:=by
 unfold matL
 rw[List.map_map]
 refine List.map_congr_left λi _ => ?_
 show tranL back (rowL (2^m) (A i)) ws=rowL (2^m) _
 apply List.ext_getElem?
 intro k
 by_cases hk:k<2^m
 . rw[rowL_get hk,nth_get (by rw[tranL_length hw]; exact hk)]
   rw[trn_nth (f:=A i) (rowL_length _ _) hw (λj hj=>by unfold nth; rw[List.getD_eq_getElem?_getD,rowL_get hj]; rfl) hk]
 . rw[List.getElem?_eq_none (by rw[tranL_length hw]; omega),List.getElem?_eq_none (by rw[rowL_length]; omega)]
theorem mat_cols{n m:Nat}(A:Nat->Nat->Cq)(h:1<=n):gcols (matL n m A)=m:=by
 obtain⟨row,e,hl⟩:=head_get (rows:=matL n m A) (by rw[matL_length]; omega)
 rw[matL_get (by omega)]at e
 obtain rfl:=Option.some.inj e
 rw[<-hl,rowL_length]
theorem mat_at{n m i k:Nat}(A:Nat->Nat->Cq)(hi:i<n)(hk:k<m):atG Cq.zero (matL n m A) i k=A i k:=by
 unfold atG
 have e1:(matL n m A).getD i []=rowL m (A i):=by rw[List.getD_eq_getElem?_getD,matL_get hi]; rfl
 rw[e1,List.getD_eq_getElem?_getD,rowL_get hk]; rfl
theorem mat_turn{n m:Nat}(A:Nat->Nat->Cq)(h:1<=n):turnG Cq.zero (matL n m A)=matL m n λj i=>A i j:=by
 unfold turnG
 rw[mat_cols A h,matL_length]
 exact matL_congr λj i hj hi=>mat_at A hi hj
theorem pow1(n:Nat):1<=2^n:=Nat.pow_pos (by omega)
theorem mat_both{n m:Nat}(back:Bool)(A:Nat->Nat->Cq){ws vs:List Cq}(hw:ws.length=2^m)(hv:vs.length=2^n) :
 bothF back (matL (2^n) (2^m) A) ws vs=matL (2^n) (2^m) λi k=>trn back n (λi'=>trn back m (A i') ws k) vs i:=by
 unfold bothF
 rw[mat_map back A hw,mat_turn _ (pow1 n),mat_map back _ hv,mat_turn _ (pow1 m)]
theorem both_undo{n m:Nat}(hn:n<=2)(hm:m<=2)(A:Nat->Nat->Cq):bothF true (bothF false (matL (2^n) (2^m) A) (onesF m) (onesF n)) (onesF m) (onesF n)=matL (2^n) (2^m) A:=by
 have ho:∀ {m:Nat},m<=2->(onesF m).length=2^m:=λ{m} hm=>by
  have:m=0\/m=1\/m=2:=by omega
  rcases this with rfl|rfl|rfl<;>rfl
 rw[mat_both false A (ho hm) (ho hn),mat_both true _ (ho hm) (ho hn)]
 refine matL_congr λi k hi hk => ?_
 have c:∀i',trn true m (λk'=>trn false n (λi''=>trn false m (A i'') (onesF m) k') (onesF n) i') (onesF m) k=trn false n (λi''=>A i'' k) (onesF n) i':=λi'=>by
  have:=trn_lin (trn_Lin true m (onesF m) k) false n (λk' i''=>trn false m (A i'') (onesF m) k') (onesF n) i'
  rw[this]
  exact trn_congr (λj _=>trn_back hm (A j) hk) i'
 simp only[c]
 exact trn_back hn (λi''=>A i'' k) hi
theorem both_turn{n m:Nat}(A:Nat->Nat->Cq){ws vs:List Cq}(hw:ws.length=2^m)(hv:vs.length=2^n) :
 bothF false (turnG Cq.zero (matL (2^n) (2^m) A)) vs ws=turnG Cq.zero (bothF false (matL (2^n) (2^m) A) ws vs):=by
 rw[mat_turn A (pow1 n),mat_both false _ hv hw,mat_both false A hw hv,mat_turn _ (pow1 n)]
 exact matL_congr λk i hk hi=>trn_lin (trn_Lin false m ws k) false n (λk' i'=>A i' k') vs i
theorem turn_turn{n m:Nat}(A:Nat->Nat->Cq)(hn:1<=n)(hm:1<=m):turnG Cq.zero (turnG Cq.zero (matL n m A))=matL n m A:=by
 rw[mat_turn A hn,mat_turn _ hm]
theorem oneN{V:View}{x:List Value}{z:Cq}(h:numC V x z):∀v∈x,Value.oneCell' v=true:=by
 obtain⟨n,e,_⟩:=h
 subst e
 intro v hv
 rw[num_cells]at hv
 simp only[List.mem_cons,List.not_mem_nil,or_false]at hv
 rcases hv with rfl|rfl|rfl|rfl|rfl<;>rfl
theorem one_N{V:View}{o:List Value}{row:List Cq}(h:Cells 5 numC V o row):∀v∈o,Value.oneCell' v=true:=by
 induction row generalizing o with
 | nil=>rw[show o=[]from h]; simp
 | cons z zs ih =>
   obtain⟨x,o',e,hx,hp,ht⟩:=h
   subst e
   intro v hv
   rw[List.mem_append]at hv
   rcases hv with hv|hv
   . exact oneN hp v hv
   . exact ih ht v hv
theorem Clone_num_Num_spec{m V:View}{s:Sl}{row:List Cq}{o:List Value}(hC:Cells 5 numC V o row)(ho:has2 m V s.a o)(hl:s.len=row.length)(ha:s.a=none->row=[])(hb:row.length<=2^30) :
 CallR Try.prog n_slices_Clone___num_Num_num_Num_ #[s.v] m V λv m' V'=>∃(r:Sl) (b:Nat),v=r.v/\RowR 5 numC m' V' r b row/\(row≠[]->m b=none)/\(∀i,i≠b\/row=[]->m' i=m i):=by
 refine slices_Clone___num_Num_num_Num__vc m s V _ ⟨trivial,λh => ?_,λh b1 V1 l1 hf hb1 => ?_⟩
 . have e:=ha (by simpa using h)
   exact⟨⟨none,0,0⟩,0,rfl,⟨by rw[e]; rfl,Nat.le_refl _,λ_=>rfl,λh=>absurd e h⟩,λh=>absurd e h,λ_ _=>rfl⟩
 . have hol:=hC.length
   refine⟨[],o,⟨Nat.le_refl _,λh=>by simp at h⟩,.inl (by intro j v hj; simp at hj),by simp,has2_le l1 ho,by rw[hol,hl],one_N hC,by unfold maxLen; omega,by omega,λh1 h2=>by omega,λa1 c1 m1 ha1 => ?_⟩
   have hC1:Cells 5 numC V1 o row:=hC.imp (numC.le l1)
   obtain⟨b,hr,hb2,hm,hm2⟩:=RowR.clone hC1 rfl hl ha1
   exact⟨_,b,rfl,hr,hb2,λi hi=>by
    rcases hi with hi|hi
    . exact hm i hi
    . rw[hm2 hi]⟩
theorem CloneV_num_Num{V:View}{s:Sl}{row:List Cq}(h:ListAt 5 numC V s row)(hb:row.length<=2^30) :
 CallV Try.prog n_slices_Clone___num_Num_num_Num_ #[s.v] V λv V'=>∃r:Sl,v=r.v/\ListAt 5 numC V' r row:=by
 obtain⟨hl,hc,hn,o,ho,hC⟩:=h
 refine CallR.known (Clone_num_Num_spec (m:=λ_=>none) hC (.inr ho) hl (λe => ?_) hb) λv m V' V2 l e ap ⟨r,b,hv,hr,_⟩=>⟨r,hv,?_⟩
 . rcases Classical.em (row=[])with g|g
   . exact g
   . have:=hn g; rw[e]at this; simp at this
 . subst e
   exact hr.known (numC.le (View.le_or ap)) (λb cs g=>View.or_left g)
theorem NewGrid_num_Num_spec{V:View}{p:Sl}{rows:List (List Cq)}(h:RowsV 5 numC V p rows) :
 CallV Try.prog n_transform_NewGrid_num_Num_ #[p.v] V λv V'=>∃g:GridV,v = .tuple #[g.val,.int .i64 (gridE rows)]/\RowsV 5 numC V' g.rows (gridR rows):=by
 have hl:p.len=rows.length:=h.len
 have bad:∀V':View,gridOkB rows=false->∃g:GridV,Value.tuple #[(GridV.mk (Sl.mk none 0 0)).val,.int .i64 4] = .tuple #[g.val,.int .i64 (gridE rows)]/\RowsV 5 numC V' g.rows (gridR rows):=λV' e=>by
  refine⟨⟨⟨none,0,0⟩⟩,?_,?_⟩
  . unfold gridE; rw[e]; rfl
  . unfold gridR; rw[e]; exact ListAt.nil
 refine transform_NewGrid_num_Num__vc p V _ (λ_ _ _=>1<=rows.length/\rows.length<=64)
  (λ_ x V'=>∃(t:Nat) (l:List Value),x.t18=t/\t<=rows.length/\LstOk 1 x.o4_0l x.o4_0c x.o45 l/\x.o4_0l=t/\Cells 1 (λV x row=>∃s:Sl,x=[s.v]/\ListAt 5 numC V s row) V' l (rows.take t)/\∀row∈rows.take t,growOk (gcols rows) row=true)
  (λ_ x _=>rows.length-x.t18.toNat) ?_
 rw[hl]
 refine⟨⟨λc=>bad V ?_,λc=>⟨λc'=>bad V ?_,λc' => ?_⟩⟩,?_⟩
 . unfold gridOkB
   have c:=of_decide_eq_true c
   have:decide (1<=rows.length)=false:=decide_eq_false (by omega)
   rw[this]; rfl
 . unfold gridOkB
   have c':=of_decide_eq_true c'
   have:decide (rows.length<=64)=false:=decide_eq_false (by omega)
   rw[this,Bool.false_and,Bool.and_false]
 . have c:=of_decide_eq_false c
   have c':=of_decide_eq_false c'
   omega
 rintro⟨o2⟩ V1 l1 ⟨n1,n2⟩
 refine⟨⟨0,[],rfl,by omega,LstOk.nil,rfl,rfl,by simp⟩,?_⟩
 rintro⟨t18,o2',k,c,o⟩ V2 l2 ⟨t,l,et,ht,hL,ek,hC,hall⟩
 dsimp only at et hL ek hC ⊢
 subst et; subst ek
 have L2:=View.le_trans l1 l2
 refine⟨λhlt => ?_,λhge => ?_⟩
 . have hk:k<rows.length:=by simp at hlt; omega
   have ek:rows[k]?=some rows[k]:=List.getElem?_eq_getElem hk
   have hmem:=List.getElem_mem hk
   obtain⟨g,s,h1,h2⟩:=(RowsV.le numC.le L2 h).row (t:=(k:Int)) (by omega) (row:=rows[k]) (by rw[Int.toNat_natCast]; exact ek)
   have hs:s.len=rows[k].length:=h2.len
   rw[hl]at g
   have tk:rows.take (k+1)=rows.take k++[rows[k]]:=by rw[List.take_add_one,ek]; rfl
   generalize rows[k]=row at *
   have no:growOk (gcols rows) row=false->gridOkB rows=false:=λe=>by
    unfold gridOkB
    rw[List.all_eq_false.2 ⟨row,hmem,by rw[e]; simp⟩,Bool.and_false,Bool.and_false]
   refine⟨g,s,h1,λc1=>bad V2 (no ?_),λc1=>⟨λc2=>bad V2 (no ?_),λc2 => ?_⟩⟩
   . unfold growOk
     have c1:=of_decide_eq_true c1
     have:decide (1<=row.length)=false:=decide_eq_false (by omega)
     rw[this]; rfl
   . unfold growOk
     have c2:=of_decide_eq_true c2
     have:decide (row.length<=64)=false:=decide_eq_false (by omega)
     rw[this,Bool.false_and,Bool.and_false]
   obtain⟨row0,e0,e1⟩:=head_get (rows:=rows) (by omega)
   obtain⟨g0,s0,h3,h4⟩:=(RowsV.le numC.le L2 h).row (t:=(0:Int)) (by omega) (row:=row0) e0
   have hs0:s0.len=gcols rows:=by rw[<-e1]; exact h4.len
   rw[hl]at g0
   refine⟨g0,s0,h3,λc3=>bad V2 (no ?_),λc3 => ?_⟩
   . unfold growOk
     have:decide (row.length=gcols rows)=false:=decide_eq_false (λe=>by rw[hs,hs0,e]at c3; simp at c3)
     rw[this,Bool.and_false,Bool.and_false]
   have ok:growOk (gcols rows) row=true:=by
    have c1:=of_decide_eq_false c1
    have c2:=of_decide_eq_false c2
    have c3:row.length=gcols rows:=by rw[hs,hs0]at c3; simp at c3; omega
    unfold growOk
    rw[decide_eq_true (show 1<=row.length by omega),decide_eq_true (show row.length<=64 by omega),decide_eq_true c3]; rfl
   refine(CloneV_num_Num h2 (by have:=of_decide_eq_false c2; omega)).mono λv V3 l3 ⟨r1,hv,hr⟩=>⟨r1,hv,λb1 V4 l4 _ hb1 => ?_⟩
   have hnew:V4.has (some (Addr.mk b1 0 none)) [r1.v]:=rhas_block (cs:=[r1.v]) (j:=0) hb1 (λi v hv=>by rw[Nat.zero_add]; exact hv) rfl
   refine⟨l,_,hL,hnew,rfl,by intro v hv; simp at hv; subst hv; rfl,by unfold maxLen; omega,by omega,λc1 l3' hl3 => ?_⟩
   rw[i64w (by omega) (by omega)]
   have L24:=View.le_trans l3 l4
   refine⟨⟨k+1,_,by omega,by omega,hl3,rfl,?_,λrow' hr' => ?_⟩,by omega⟩
   . rw[tk]
     exact(hC.imp λ_ _ ⟨s,e,hs⟩=>⟨s,e,ListAt.le (numC.le L24) L24 hs⟩).append (Cells.one rfl ⟨_,rfl,ListAt.le (numC.le l4) l4 hr⟩)
   . rw[tk]at hr'
     rcases List.mem_append.1 hr' with hr'|hr'
     . exact hall row' hr'
     . rw[show row'=row by simpa using hr']; exact ok
 . have e:k=rows.length:=by simp at hge; omega
   subst e
   rw[List.take_length]at hC hall
   intro b2 V5 l5 hb2
   have ok:gridOkB rows=true:=by
    unfold gridOkB
    simp only[Bool.and_eq_true,decide_eq_true_eq,List.all_eq_true]
    exact⟨n1,n2,hall⟩
   refine⟨⟨⟨lstA b2 c,rows.length,c⟩⟩,by unfold gridE; rw[ok]; rfl,?_⟩
   unfold gridR; rw[if_pos ok]
   exact ListAt.of_lst hL hb2 (hC.imp λ_ _ ⟨s,e,hs⟩=>⟨s,e,ListAt.le (numC.le l5) l5 hs⟩) rfl
theorem Size_num_Num_spec{V:View}{g:GridV}{rows:List (List Cq)}(h:RowsV 5 numC V g.rows rows) :
 CallV Try.prog n__transform_Grid_num_Num___Size #[g.val] V λv _=>v = .tuple #[.int .i64 (rows.length:Int),.int .i64 (gcols rows:Int)]:=by
 have hl:g.rows.len=rows.length:=h.len
 refine m_transform_Grid_num_Num___Size_vc g V _ ⟨λc => ?_,λc => ?_⟩
 . have e:rows=[]:=List.length_eq_zero_iff.1 (by simp at c; omega)
   subst e; rfl
 . obtain⟨row0,e0,e1⟩:=head_get (rows:=rows) (by simp at c; omega)
   obtain⟨g0,s0,h3,h4⟩:=h.row (t:=(0:Int)) (by omega) (row:=row0) e0
   refine⟨g0,s0,h3,?_⟩
   rw[h4.len,e1,hl]
theorem Row_num_Num_spec{m V:View}{g:GridV}{rows:List (List Cq)}{i:Int}(h:RowsV 5 numC V g.rows rows)(hb:∀row,row∈rows->row.length<=2^30) :
 CallR Try.prog n__transform_Grid_num_Num___Row #[g.val,.int .i64 i] m V λv m' V'=>∃(r:Sl) (e:Int),v = .tuple #[r.v,.int .i64 e] /\
  (0<=i/\i<rows.length->e=0/\∃b:Nat,RowR 5 numC m' V' r b (rows.getD i.toNat [])/\(rows.getD i.toNat []≠[]->m b=none)/\(∀k,k≠b\/rows.getD i.toNat []=[]->m' k=m k)) /\
  (¬(0<=i/\i<rows.length)->e=1/\r=⟨none,0,0⟩/\m'=m):=by
 have hl:g.rows.len=rows.length:=h.len
 refine m_transform_Grid_num_Num___Row_vc m g i V _ ⟨λc => ?_,λc=>⟨λc' => ?_,λc' => ?_⟩⟩
 . have c:=of_decide_eq_true c
   exact⟨_,_,rfl,λk=>absurd k.1 (by omega),λ_=>⟨rfl,rfl,rfl⟩⟩
 . have c':=of_decide_eq_true c'
   exact⟨_,_,rfl,λk=>absurd k.2 (by omega),λ_=>⟨rfl,rfl,rfl⟩⟩
 . have c:=of_decide_eq_false c
   have c':=of_decide_eq_false c'
   have hi:i.toNat<rows.length:=by omega
   have ek:rows[i.toNat]?=some (rows.getD i.toNat []):=by simp[List.getD,hi]
   obtain⟨g1,s,h1,h2⟩:=h.row (t:=i) (by omega) ek
   obtain⟨sl,_,hn,o,ho,hC⟩:=h2
   refine⟨g1,s,.inr h1,(Clone_num_Num_spec hC (.inr ho) sl (λe => ?_) (hb _ (List.mem_of_getElem? ek))).mono λv m1 V1 l1 _ ⟨r,b,hv,hr,k1,k2⟩=>⟨r,hv,r,0,rfl,λ_=>⟨rfl,b,hr,k1,k2⟩,λk=>absurd ⟨by omega,by omega⟩ k⟩⟩
   rcases Classical.em (rows.getD i.toNat []=[])with g|g
   . exact g
   . have:=hn g; rw[e]at this; simp at this
theorem RowV_num_Num{V:View}{g:GridV}{rows:List (List Cq)}{i:Int}(h:RowsV 5 numC V g.rows rows)(hb:∀row,row∈rows->row.length<=2^30) :
 CallV Try.prog n__transform_Grid_num_Num___Row #[g.val,.int .i64 i] V λv V'=>∃(r:Sl) (e:Int),v = .tuple #[r.v,.int .i64 e] /\
  (0<=i/\i<rows.length->e=0/\ListAt 5 numC V' r (rows.getD i.toNat []))/\(¬(0<=i/\i<rows.length)->e=1/\r=⟨none,0,0⟩):=by
 refine CallR.known (Row_num_Num_spec h hb) λv m V' V2 l e ap ⟨r,e',hv,h1,h2⟩=>⟨r,e',hv,λk => ?_,λk=>⟨(h2 k).1,(h2 k).2.1⟩⟩
 obtain⟨e0,b,hr,_⟩:=h1 k
 subst e
 exact⟨e0,hr.known (numC.le (View.le_or ap)) (λb cs g=>View.or_left g)⟩
theorem Turned_num_Num_spec{V:View}{g:GridV}{rows:List (List Cq)}(h:RowsV 5 numC V g.rows rows)(hr:Rect rows)(hn:rows.length<=2^20)(hw:gcols rows<=2^20)(d:Cq) :
 CallV Try.prog n__transform_Grid_num_Num___Turned #[g.val] V λv V'=>∃r:GridV,v=r.val/\RowsV 5 numC V' r.rows (turnG d rows):=by
 have hl:g.rows.len=rows.length:=h.len
 let n:=rows.length
 let w:=gcols rows
 let A:Nat->Nat->Cq:=λj i=>atG d rows i j
 refine m_transform_Grid_num_Num___Turned_vc g V _
  (λ_ x V'=>∃k:Nat,x.t18=k/\k<=gcols rows/\x.o15.length=gcols rows/\RowsR 5 numC x.o0 V' x.o15 (gcols rows) (λi=>if i<k then rowL rows.length (A i)else [])) (λ_ x _=>gcols rows-x.t18.toNat)
  (λc x V'=>∃k j:Nat,c.t18=k/\k<gcols rows/\x.t24=j/\j<=rows.length/\x.o15.length=gcols rows/\RowsR 5 numC x.o0 V' x.o15 (gcols rows) (λi=>if i<k then rowL rows.length (A i)else if i=k then rowL j (A k)else [])) (λ_ x _=>rows.length-x.t24.toNat) ?_
 refine(Size_num_Num_spec h).mono λv V1 l1 hv=>⟨_,_,hv,?_⟩
 rw[Int.toNat_natCast,hl]
 refine⟨⟨by omega,by omega,by omega,by omega⟩,⟨0,rfl,by omega,by simp,?_⟩,?_⟩
 . rw[flat1]; exact(RowsR.nils V1 (gcols rows)).congr λi _=>by rw[if_neg (by omega)]
 rintro⟨t18,o0,o2,o15⟩ V3 l3 ⟨k,ek,hk,hol,hR⟩
 dsimp only at ek hol hR ⊢
 subst ek
 refine⟨λhlt=>⟨⟨k,0,rfl,by simp at hlt; omega,rfl,by omega,hol,hR.congr λi hi => ?_⟩,?_⟩,λhge => ?_⟩
 . by_cases e:i<k
   . rw[if_pos e,if_pos e]
   . rw[if_neg e,if_neg e]
     split<;>rfl
 . rintro⟨t24,o0',o15'⟩ V4 l4 ⟨k',j,ek,hkw,ej,hj,hol',hR'⟩
   dsimp only at ek ej hol' hR' ⊢
   obtain rfl:k=k':=by omega
   subst ej
   refine⟨λhlt2 => ?_,λhge2 => ?_⟩
   . have hjn:j<rows.length:=by simp at hlt2; omega
     obtain⟨s3,e3,r1,r2,r3,⟨o3,r4,r5,r6⟩,r7⟩:=hR'.row (i:=k) hkw
     rw[if_neg (by omega),if_pos rfl]at r1 r6
     rw[rowL_length]at r1
     have ejr:=getD_get hjn []
     obtain⟨g1,s,g2,g3⟩:=(RowsV.le numC.le (View.le_trans l1 (View.le_trans l3 l4)) h).row (t:=(j:Int)) (by omega) (row:=rows.getD j []) (by rw[Int.toNat_natCast]; exact ejr)
     rw[hl]at g1
     have hkr:k<(rows.getD j []).length:=by rw[gcols_get hr ejr]; exact hkw
     obtain⟨d1,x,hx,hxl,hh,hs⟩:=ListAt.get g3 (t:=(k:Int)) (by omega) (z:=A k j) (by rw[Int.toNat_natCast]; exact getD_get hkr d)
     obtain⟨y,ey⟩:∃y:NumV,x=y.val.cells.toList:=by obtain⟨y,e,_⟩:=hx; exact⟨_,e⟩
     subst ey
     refine⟨g1,s,.inr g2,⟨by omega,by omega⟩,s3,by rw[Int.toNat_natCast,Nat.mul_one,Nat.zero_add]; exact e3,d1,y,.inr hh,hs,λb2 V6 l6 _ hb2 => ?_⟩
     have hnew:V6.has (some (Addr.mk b2 0 none)) y.val.cells.toList:=rhas_block (cs:=y.val.cells.toList) (j:=0) hb2 (λi v hv=>by rw[Nat.zero_add]; exact hv) rfl
     have hrc:numC V6 y.val.cells.toList (A k j):=numC.le l6 _ _ hx
     refine⟨o3,_,⟨r2,r3⟩,has2_le l6 r4,r5,.inr hnew,rfl,oneN hrc,by unfold maxLen; omega,by omega,λ_ h2=>r7 1 (by omega) h2,λa1 c1 m1 ha=>⟨⟨by omega,by omega⟩,by rw[hol',Int.toNat_natCast]; omega,?_⟩⟩
     have:=(hR'.le numC.le l6).app (i:=k) hkw e3 (z:=A k j) rfl hrc (o':=o3) (by rw[if_neg (by omega),if_pos rfl]; exact r6.imp (numC.le l6)) ha
     rw[i64w (by omega) (by omega)]
     refine⟨⟨k,j+1,rfl,hkw,by omega,by omega,by simp[hol'],?_⟩,by omega⟩
     have e1:(0+Int.toNat (k:Int)*1)=k:=by omega
     rw[e1]
     refine this.congr λi hi => ?_
     by_cases e:i=k
     . subst e
       simp only[if_true,Nat.lt_irrefl,if_false]
       exact rowL_push _ _
     . simp only[if_neg e]
   . have e:j=rows.length:=by simp at hge2; omega
     subst e
     rw[i64w (by omega) (by omega)]
     refine⟨⟨k+1,by omega,by omega,hol',hR'.congr λi hi => ?_⟩,by omega⟩
     by_cases e:i<k
     . rw[if_pos e,if_pos (by omega)]
     . rw[if_neg e]
       by_cases e2:i=k
       . subst e2; rw[if_pos rfl,if_pos (by omega)]
       . rw[if_neg e2,if_neg (by omega)]
 . have e:k=gcols rows:=by simp at hge; omega
   subst e
   refine λb3 hb3 _=>⟨by decide,λV5 l5 hm5=>⟨_,rfl,?_⟩⟩
   have hR2:RowsR 5 numC o0 V3 o15 (gcols rows) (λi=>rowL rows.length (A i)):=hR.congr λi hi=>by rw[if_pos hi]
   exact(hR2.mat hol hb3).known (numC.le l5) hm5
def all4:List Cq:=[⟨1,0⟩,⟨0,-1⟩,⟨-1,0⟩,⟨0,1⟩]
def rootsQ(n:Nat):List Cq:=(List.range n).map λj=>nth all4 (4 / n*j)
theorem all4_1:(⟨((1:Int):Rat),0⟩:Cq)=⟨1,0⟩:=Cq.ext' (by simp) rfl
theorem all4_2:(⟨((0:Int):Rat) / ((1:Int):Rat),((-1:Int):Rat) / ((1:Int):Rat)⟩:Cq)=⟨0,-1⟩:=Cq.ext' (by simp only[]; grind) (by simp only[]; grind)
theorem all4_3:(⟨((-1:Int):Rat),0⟩:Cq)=⟨-1,0⟩:=Cq.ext' (by simp only[]; grind) rfl
theorem all4_4 : -(⟨0,-1⟩:Cq)=⟨0,1⟩:=Cq.ext' (by rw[Cq.neg_re]; grind) (by rw[Cq.neg_im]; grind)
theorem transform_Exact_spec{V:View}{n:Nat}(hn:n=1\/n=2\/n=4) :
 CallV Try.prog n_transform_Exact #[.int .i64 (n:Int)] V λv V'=>∃r:Sl,v = .tuple #[r.v,.int .i64 0]/\NumsAt V' r (rootsQ n):=by
 have hd:(4 / n)*n=4:=by rcases hn with rfl|rfl|rfl<;>rfl
 have hpos:1<=4 / n:=by rcases hn with rfl|rfl|rfl<;>decide
 have hn4:n<=4:=by omega
 have hn0:n≠0:=by omega
 have hdi:Int.tdiv 4 (n:Int)=((4 / n:Nat):Int):=by rcases hn with rfl|rfl|rfl<;>rfl
 have hw:IntKind.i64.wrap (Int.tdiv 4 (n:Int))=((4 / n:Nat):Int):=by
  rw[hdi]
  refine i64w (by omega) ?_
  have:4 / n<=4:=Nat.div_le_self _ _
  omega
 have hq:4 / n<=4:=Nat.div_le_self _ _
 refine transform_Exact_vc (n:Int) V _ (λc x V'=>∃l,NumsAt V' c.t6 all4/\x.t8=(4 / n*x.t7l:Nat)/\x.t7l<=n/\LstOk 5 x.t7l x.t7c x.o7 l/\NumsIn V' l ((List.range x.t7l).map λj=>nth all4 (4 / n*j)))
  (λ_ x _=>n-x.t7l) ((transform_length_spec (Int.natCast_nonneg _)).mono λv V1 l1 hv=>⟨_,hv,λh => ?_,λh=>⟨λh => ?_,λ_ => ?_⟩⟩)
 . exfalso
   rw[Int.toNat_natCast]at h
   rcases hn with rfl|rfl|rfl<;>exact absurd h (by decide)
 . exfalso; simp at h; omega
 refine(num_New_spec (by omega) (by omega) (by omega) (by omega) (by omega) (by omega) (by omega)).mono λv V2 l2 ⟨r2,hv,h2⟩=>⟨r2,0,hv,?_⟩
 refine(num_Int_spec (by omega) (by omega)).mono λv V3 l3 ⟨r4,hv,h4⟩=>⟨r4,hv,?_⟩
 refine(num_Int_spec (by omega) (by omega)).mono λv V4 l4 ⟨r5,hv,h5⟩=>⟨r5,hv,?_⟩
 rw[all4_2]at h2
 rw[all4_1]at h4
 rw[all4_3]at h5
 refine(Num_Neg_spec (h2.le (View.le_trans l3 l4))).mono λv V5 l5 ⟨r6,hv,h6⟩=>⟨r6,hv,?_⟩
 rw[all4_4]at h6
 intro b V6 l6 hf hb
 have hall:NumsAt V6 (Sl.mk (some (Addr.mk b 0 none)) 4 4) all4 :=
  ListAt.of_made (o:=[.bool r4.re.neg,r4.re.mag.v,.bool r4.im.neg,r4.im.mag.v,r4.under.v]++([.bool r2.re.neg,r2.re.mag.v,.bool r2.im.neg,r2.im.mag.v,r2.under.v]++([.bool r5.re.neg,r5.re.mag.v,.bool r5.im.neg,r5.im.mag.v,r5.under.v]++([.bool r6.re.neg,r6.re.mag.v,.bool r6.im.neg,r6.im.mag.v,r6.under.v]++[]))))
   (by simpa using hb)
   ⟨_,_,rfl,rfl,⟨r4,rfl,h4.le (View.le_trans l4 (View.le_trans l5 l6))⟩,_,_,rfl,rfl,⟨r2,rfl,h2.le (View.le_trans l3 (View.le_trans l4 (View.le_trans l5 l6)))⟩,_,_,rfl,rfl,⟨r5,rfl,h5.le (View.le_trans l5 l6)⟩,_,_,rfl,rfl,⟨r6,rfl,h6.le l6⟩,rfl⟩ rfl
 refine⟨⟨[],hall,by simp,by simp,LstOk.nil,rfl⟩,?_⟩
 rintro⟨k,c,t,o⟩ V7 l7 ⟨l,hA,ht,hk,hlo,hin⟩
 simp only at hA ht hk hlo hin ⊢
 refine⟨λhlt => ?_,λhge => ?_⟩
 . simp only[decide_eq_true_eq]at hlt
   have hkn:k<n:=by
    rcases Nat.lt_or_ge k n with h|h
    . exact h
    . have:=Nat.mul_le_mul_left (4 / n) h
      omega
   obtain⟨hb',x,hx,hs,hnx⟩:=hA.get (t:=t) (by omega) (by simp[all4]; omega)
   refine⟨hb',x,hx,hs,λb2 V8 l8 hf8 hb8 => ?_⟩
   refine⟨l,_,hlo,has_block (l:=[.bool x.re.neg,x.re.mag.v,.bool x.im.neg,x.im.mag.v,x.under.v]) hb8,rfl,oneCell_num x,Nat.le_trans (show k+1<=5 by omega) (show 5<=maxLen by decide),by omega,λc1 l3' hl3=>⟨by omega,⟨_,hA.le l8,?_,by omega,hl3,?_⟩,by omega⟩⟩
   . rw[hw,i64w (by omega) (by omega),ht,Nat.mul_add]; omega
   . rw[<-push_range]
     have e3:4 / n*k=t.toNat:=by omega
     rw[e3]
     exact(hin.le l8).push (hnx.le l8)
 . simp only[decide_eq_false_iff_not]at hge
   intro b3 V9 l9 hb9
   refine⟨_,rfl,?_⟩
   have hkn:k=n:=by
    rcases Nat.lt_or_ge k n with h|h
    . have:=Nat.mul_le_mul_left (4 / n) (show k+1<=n from h)
      rw[Nat.mul_add]at this
      omega
    . omega
   subst hkn
   refine ListAt.of_lst hlo hb9 (hin.le l9) ?_
   simp[rootsQ]
theorem transform_Fast_spec{V:View}{p w:Sl}{m:Nat}{zs ws:List Cq}(S T:Nat)(hm:m<=6)(hz:zs.length=2^m)(hw:ws.length=2^m)(hp:NumsAt V p zs)(hq:NumsAt V w ws)
 (hS:∀i,i<2^m->(nth zs i).sz<=S) (hT:∀i,i<2^m->(nth ws i).sz<=T) (hsz:2^m*(S+T+2)<=2^39) :
 CallV Try.prog n_transform_Fast_num_Num_ #[p.v,w.v] V λv V'=>∃r:Sl,v = .tuple #[r.v,.int .i64 0]/\NumsAt V' r (stageF m zs ws):=by
 have hpl:=hp.len
 have hwl:=hq.len
 have hl:lenB w.len=true:=by
  rw[hwl,hw]
  have key:∀m∈List.range 7,lenB (2^m)=true:=by decide
  exact key m (by simp; omega)
 refine transform_Fast_num_Num__vc p w V _ ((transform_fits_spec p w).mono λv V1 l1 hv=>⟨_,hv,λh => ?_,λh => ?_⟩)
 . rw[hl]at h; simp at h; omega
 . have ne:stageF m zs ws≠[]:=by
     intro e
     have:=stageF_length m zs ws
     rw[e]at this; simp at this
     have:0<2^m:=Nat.pow_pos (by omega)
     omega
   exact(CallO.nums ne (transform_stage_owned m S T hm hz hw (hp.le l1) (hq.le l1) hS hT hsz)).mono λv V2 l2 ⟨r,hv,hr⟩=>⟨r,hv,r,rfl,hr⟩
def gateOk(g:GateV)(n:Int):Prop:=0<=g.from_/\g.from_<n/\0<=g.count/\g.count<=n
theorem transform_valid_ok{V:View}{g:GateV}{n:Nat}(hl:lenB n=true)(h:gateOk g n) :
 CallV Try.prog n_transform_valid #[g.val,.int .i64 (n:Int)] V λv _=>v = .int .i64 0:=by
 obtain⟨h1,h2,h3,h4⟩:=h
 refine transform_valid_vc g n V _ ((transform_length_spec (Int.natCast_nonneg _)).mono λv V1 l1 hv=>⟨_,hv,λh => ?_,λ_=>⟨λh => ?_,λ_=>⟨λh => ?_,λ_=>⟨λh => ?_,λ_=>⟨λh => ?_,λ_=>rfl⟩⟩⟩⟩⟩)
 . rw[Int.toNat_natCast,hl]at h; simp at h
 . simp at h; omega
 . simp at h; omega
 . simp at h; omega
 . simp at h; omega
theorem transform_Rest_ok{V:View}{g:GateV}{n:Nat}(hl:lenB n=true)(h:gateOk g n) :
 CallV Try.prog n_transform_Rest #[g.val,.int .i64 (n:Int)] V λv _=>v = .tuple #[(GateV.mk ((g.from_+g.count)%n) (n-g.count)).val,.int .i64 0]:=by
 have hb:=lenB_le hl
 obtain⟨h1,h2,h3,h4⟩:=id h
 refine transform_Rest_vc g n V _ ((transform_valid_ok hl h).mono λv V1 l1 hv=>⟨_,hv,λh => ?_,λ_=>⟨by omega,?_⟩⟩)
 . simp at h
 . rw[i64w (by omega) (by omega),i64w (by omega) (by omega),Int.tmod_eq_emod_of_nonneg (by omega)]
theorem slices_Reverse_one{V:View}{c:Nat}{w:List Value} :
 CallD Try.prog n_slices_Reverse___byte_byte_ (λb=>(Value.slice (some ⟨b,0,none⟩) 1 c::[]:List Value)) T_u8 w V λv l _=>v = .tuple #[]/\l=w:=by
 refine slices_Reverse___byte_byte__vc 0 1 c w V _ (λ_ x _=>x.t2=0/\x.t3=0/\x.o0=w) (λ_ _ _=>0) ⟨⟨rfl,(by decide:IntKind.i64.wrap (((1:Nat):Int)-1)=0),rfl⟩,?_⟩
 rintro⟨a,b,o⟩ V1 l1 ⟨h1,h2,h3⟩
 dsimp only at h1 h2 h3 ⊢
 subst h1; subst h2; subst h3
 exact⟨λh=>absurd h (by simp),λ_=>⟨rfl,rfl⟩⟩
theorem nat_digits_one{V:View}{s:Sl}{n:Nat}(h:NatAt V s n)(h0:0<n)(h9:n<10) :
 CallV Try.prog n_nat_digits #[s.v] V λv _=>v = .string (ByteArray.mk #[UInt8.ofNat (48+n)]):=by
 have hl:=h.len_zero
 refine nat_digits_vc s V _
  (λ_ x V'=>(NatAt V' x.t0 n/\x.t3l=0/\x.t3c=0/\x.o3=[])\/(x.t0.len=0/\x.t3l=1/\LstOk 1 1 x.t3c x.o3 [.int .u8 ((48+n:Nat):Int)])) (λ_ x _=>x.t0.len)
  (λc x V'=>c.t0.len=0/\((x.t3l=0/\x.t3c=0/\x.t4=n/\x.t5=0/\x.o3=[])\/(x.t3l=1/\x.t4=0/\x.t5=1/\LstOk 1 1 x.t3c x.o3 [.int .u8 ((48+n:Nat):Int)]))) (λ_ x _=>1-x.t3l)
  ⟨λh1 => ?_,λ_=>⟨.inl ⟨h,rfl,rfl,rfl⟩,?_⟩⟩
 . exfalso; have h1:(s.len:Int)=0:=(by simpa using h1); omega
 rintro⟨t0,t3l,t3c,o3⟩ V1 l1 hI
 dsimp only at hI ⊢
 refine⟨λhp => ?_,λhz => ?_⟩
 . simp only[gt_iff_lt,decide_eq_true_eq]at hp
   rcases hI with⟨hA,rfl,rfl,rfl⟩|⟨hA,_⟩
   rotate_left
   . exfalso; omega
   have hw:wn n<=2^45:=by have:wn n<=2:=wn_le_of_lt (by omega); omega
   refine(nat_short_spec hA hw (d:=1000000000) (by omega) (by omega)).mono λv V2 l2 ⟨r1,hv,hr1⟩=>⟨r1,_,hv,?_⟩
   rw[Nat.div_eq_of_lt (by omega)]at hr1
   have hr0:r1.len=0:=hr1.len_zero.2 rfl
   rw[Nat.mod_eq_of_lt (by omega)]
   refine⟨⟨hr0,.inl ⟨rfl,rfl,rfl,rfl,rfl⟩⟩,?_⟩
   rintro⟨t3l,t3c,t4,t5,o3⟩ V3 l3 ⟨_,hI⟩
   dsimp only at hI ⊢
   refine⟨λh9=>⟨λh => ?_,λ_=>⟨λhpos => ?_,λhnp => ?_⟩⟩,λh9 => ?_⟩
   . exfalso; simp[hr0]at h
   . simp only[gt_iff_lt,decide_eq_true_eq]at hpos
     rcases hI with⟨rfl,rfl,rfl,rfl,rfl⟩|⟨rfl,rfl,rfl,hA⟩
     rotate_left
     . exfalso; omega
     intro b1 V4 l4 hf hb
     have ed:IntKind.u8.wrap (IntKind.u32.wrap (48+Int.tmod (n:Int) 10))=((48+n:Nat):Int):=by
      have e1:Int.tmod (n:Int) 10=n:=by rw[Int.tmod_eq_emod_of_nonneg (by omega)]; omega
      rw[e1,u32w (by omega) (by omega)]
      have:∀n∈List.range 10,IntKind.u8.wrap (48+(n:Int))=((48+n:Nat):Int):=by decide
      exact this n (by simp; omega)
     rw[ed]at hb
     refine⟨[],[.int .u8 ((48+n:Nat):Int)],LstOk.nil,has_block hb,rfl,?_,by decide,by decide,λc1 l3 hl3=>⟨⟨hr0,.inr ⟨rfl,?_,?_,hl3⟩⟩,?_⟩⟩
     . intro v hv; simp at hv; subst hv; rfl
     . show IntKind.u32.wrap (Int.tdiv (n:Int) 10)=0
       have e1:Int.tdiv (n:Int) 10=0:=by rw[Int.tdiv_eq_ediv_of_nonneg (by omega)]; omega
       rw[e1]; decide
     . show IntKind.i64.wrap (0+1)=1
       decide
     . show 1-(0+1)<1-0
       decide
   . simp only[gt_iff_lt,decide_eq_false_iff_not]at hnp
     rcases hI with⟨rfl,rfl,rfl,rfl,rfl⟩|⟨rfl,rfl,rfl,hA⟩
     . exfalso; omega
     . exact⟨.inr ⟨hr0,rfl,hA⟩,by show r1.len<t0.len; omega⟩
   . rcases hI with⟨rfl,rfl,rfl,rfl,rfl⟩|⟨rfl,rfl,rfl,hA⟩<;>exact absurd h9 (by simp)
 . simp only[gt_iff_lt,decide_eq_false_iff_not]at hz
   rcases hI with⟨hA,rfl,rfl,rfl⟩|⟨hA,rfl,hlo⟩
   . exfalso; have:=hA.len_zero; omega
   obtain⟨o',e⟩:=hlo.split
   have hc:=hlo.le
   refine⟨⟨by rw[e]; simp,⟨by omega,trivial⟩,trivial⟩,slices_Reverse_one.mono λv l V7 l7 ⟨hv,hl⟩=>⟨hv,λb4 V8 l8 hb => ?_⟩⟩
   rw[hl]at hb
   refine⟨[UInt8.ofNat (48+n)],?_,rfl,rfl,rfl⟩
   have hh:=has_block hb
   intro j v hj
   refine hh j v ?_
   rw[e]
   have ev:byteV (UInt8.ofNat (48+n)) = .int .u8 ((48+n:Nat):Int):=by
    unfold byteV
    have:∀n∈List.range 10,((UInt8.ofNat (48+n)).toNat:Int)=((48+n:Nat):Int):=by decide
    rw[this n (by simp; omega)]
   cases j with
   | zero =>
     simp only[List.map_cons,List.map_nil,List.getElem?_cons_zero,Option.some.injEq]at hj
     rw[<-hj,ev]; rfl
   | succ j=>simp at hj
theorem small2:((1+1:Nat):Int)<=IntKind.i64.max:=by decide
theorem num_part_one{V:View}{x:WhV}{s:Sl}{a:Int}(hx:IntAt V x a)(hs:NatAt V s 1)(h0:a≠0)(h9:a.natAbs<10) :
 CallV Try.prog n_num_part #[x.val,s.v] V λv _=>v = .string (if a<0 then ByteArray.mk #[45]++ByteArray.mk #[UInt8.ofNat (48+a.natAbs)]else ByteArray.mk #[UInt8.ofNat (48+a.natAbs)]):=by
 obtain⟨e1,e2,e3⟩:=Cq.ofInt_eqs a
 have hw:wn a.natAbs<=2^43:=by have:wn a.natAbs<=2:=wn_le_of_lt (by omega); omega
 have hw0:wn (0:Int).natAbs<=2^43:=by have:wn 0<=2:=wn_le_of_lt (by omega); simp; omega
 have hw1:wn 1<=2^43:=by have:wn 1<=2:=wn_le_of_lt (by omega); omega
 refine num_part_vc x s V _ ((num_over_spec hx (IntAt.zero V) hs (Rep.ofInt a) hw hw0 hw1).mono λv V1 l1 ⟨r1,hv,hr⟩=>⟨r1,hv,?_⟩)
 have hre:=hr.re
 have hun:=hr.under
 rw[e1]at hre
 rw[e3,if_pos rfl]at hun
 have hul:r1.under.len=0:=hun.len_zero.2 rfl
 refine(nat_digits_one hre.2 (by omega) h9).mono λv V2 l2 hv=>⟨_,hv,λhneg=>⟨small2,λh => ?_,λ_ => ?_⟩,λhneg=>⟨λh => ?_,λ_ => ?_⟩⟩
 . exfalso; simp[hul]at h
 . rw[hre.1]at hneg
   rw[if_pos (by simpa using hneg)]
 . exfalso; simp[hul]at h
 . rw[hre.1]at hneg
   rw[if_neg (by simpa using hneg)]
theorem eqAt_gate:Go.Vc.EqAt Try.prog TN_api_Gate ((GateV.mk 1 2).val) ((GateV.mk 1 2).val) true:=λw=>by kernel_rfl
theorem awakeQ_eqs:(Cq.mk (-2) 2).A = -2/\(Cq.mk (-2) 2).B=2/\(Cq.mk (-2) 2).D=1 :=
 Canon.eqs ⟨⟨by omega,by simp only[]; rw[Rat.div_def]; grind,by simp only[]; rw[Rat.div_def]; grind⟩,by decide⟩
theorem small3:((1+1:Nat):Int)<=IntKind.i64.max:=by decide
theorem small4:((1+2:Nat):Int)<=IntKind.i64.max:=by decide
theorem small5:((2+3:Nat):Int)<=IntKind.i64.max:=by decide
theorem Num_Text_awake{V:View}{x:NumV}(h:NumAt V x ⟨-2,2⟩) :
 CallV Try.prog n_Num_Text #[x.val] V λv _=>v = .string (ByteArray.mk #[45,50,43,50,105]):=by
 obtain⟨e1,e2,e3⟩:=awakeQ_eqs
 have hre:=h.re
 have him:=h.im
 rw[e1]at hre
 rw[e2]at him
 refine Num_Text_vc x V _ ((Num_Real_spec h).mono λv V1 l1 hv=>⟨_,hv,λhr => ?_,λ_ => ?_⟩)
 . exfalso
   simp at hr
 refine(Num_den_spec (h.le l1)).mono λv V4 l4 ⟨r4,hv,h4⟩=>⟨r4,hv,?_⟩
 rw[e3]at h4
 refine(num_part_one (him.le (View.le_trans l1 l4)) h4 (by omega) (by decide)).mono λv V5 l5 hv=>⟨_,hv,small3,λh0 => ?_,λ_=>⟨λ_ => ?_,λhn => ?_⟩⟩
 . exfalso
   have h0:x.re.mag.len=0:=by have:(x.re.mag.len:Int)=0:=(by simpa using h0); omega
   have:=hre.2.len_zero.1 h0
   omega
 . refine⟨small4,(Num_den_spec (h.le (View.le_trans l1 (View.le_trans l4 l5)))).mono λv V6 l6 ⟨r6,hv,h6⟩=>⟨r6,hv,?_⟩⟩
   rw[e3]at h6
   refine(num_part_one (hre.le (View.le_trans l1 (View.le_trans l4 (View.le_trans l5 l6)))) h6 (by omega) (by decide)).mono λv V7 l7 hv=>⟨_,hv,small5,?_⟩
   rfl
 . exfalso
   rw[him.1]at hn
   exact absurd hn (by decide)
def four:List RatV:=[⟨1,0,0⟩,⟨2,0,0⟩,⟨3,0,0⟩,⟨4,0,0⟩]
theorem four_ok:∀r∈four,ratI r:=by
 intro r hr
 simp only[four,List.mem_cons,List.not_mem_nil,or_false]at hr
 rcases hr with rfl|rfl|rfl|rfl<;>exact⟨⟨by decide,by decide⟩,⟨by decide,by decide⟩,⟨by decide,by decide⟩⟩
theorem four_sz:∀i,i<2^2->(nth (four.map ratQ) i).sz<=4:=by
 decide +kernel
theorem roots_sz:∀i,i<2^2->(nth (rootsQ 4) i).sz<=4:=by
 decide +kernel
theorem awake_stage:nth (stageF 2 (four.map ratQ) (rootsQ 4)) 1=⟨-2,2⟩:=by
 decide +kernel
theorem ratC_of(V:View)(a b c:Int):ratC V [.int .i64 a,.int .i64 b,.int .i64 c] ⟨a,b,c⟩:=by unfold ratC; rfl
theorem awake_spec{V:View}:CallV Try.prog n_waveportlaw07_awake #[] V λv _=>v = .bool true:=by
 refine waveportlaw07_awake_vc V _ ((transform_Exact_spec (n:=4) (by omega)).mono λv V1 l1 ⟨w,hv,hw⟩=>⟨w,0,hv,?_⟩)
 intro b V2 l2 hf hb
 have hrs:RatsAt V2 (Sl.mk (some (Addr.mk b 0 none)) 4 4) four :=
  ListAt.of_made (o:=[.int .i64 1,.int .i64 0,.int .i64 0]++([.int .i64 2,.int .i64 0,.int .i64 0]++([.int .i64 3,.int .i64 0,.int .i64 0]++([.int .i64 4,.int .i64 0,.int .i64 0]++[]))))
   (by simpa using hb) ⟨_,_,rfl,rfl,ratC_of _ _ _ _,_,_,rfl,rfl,ratC_of _ _ _ _,_,_,rfl,rfl,ratC_of _ _ _ _,_,_,rfl,rfl,ratC_of _ _ _ _,rfl⟩ rfl
 refine(law1_List_spec hrs four_ok (by decide)).mono λv V3 l3 ⟨r3,hv,h3⟩=>⟨r3,hv,?_⟩
 refine(transform_Fast_spec (m:=2) 4 4 (by omega) rfl rfl h3 (hw.le (View.le_trans l2 l3)) four_sz roots_sz (by decide)).mono λv V4 l4 ⟨r4,hv,h4⟩=>⟨r4,0,hv,?_⟩
 refine(transform_Rest_ok (g:=GateV.mk 3 2) (n:=4) (by decide) ⟨by decide,by decide,by decide,by decide⟩).mono λv V5 l5 hv=>⟨GateV.mk 1 2,0,hv,?_⟩
 have hl:r4.len=4:=h4.len
 obtain⟨hb',x,hx,hs,hnx⟩:=(h4.le l5).get (t:=1) (by omega) (by show 1<4; omega)
 have e1:nth (stageF 2 (four.map ratQ) (rootsQ 4)) (Int.toNat 1)=⟨-2,2⟩:=awake_stage
 rw[e1]at hnx
 refine⟨λ_=>⟨λ_=>⟨λ_=>⟨λ_=>⟨hb',x,hx,hs,(Num_Text_awake hnx).mono λv V6 l6 hv=>⟨_,hv,λ_=>⟨true,eqAt_gate,rfl⟩,λh => ?_⟩⟩,λh => ?_⟩,λh => ?_⟩,λh => ?_⟩,λh => ?_⟩
 . simp at h
 . simp[hl]at h
 . simp at h
 . simp at h
 . simp at h
def smallR(r:RatV):RatV:=⟨Int.tmod r.re 21,Int.tmod r.im 21,((Int.tmod r.den 6).natAbs+1:Nat)⟩
def tame(r:RatV):Prop:=(-20<=r.re/\r.re<=20)/\(-20<=r.im/\r.im<=20)/\0<=r.den/\r.den<=6
theorem tame.ok{r:RatV}(h:tame r):ratI r:=by
 obtain⟨⟨a,b⟩,⟨c,d⟩,e,f⟩:=h
 exact⟨⟨by omega,by omega⟩,⟨by omega,by omega⟩,⟨by omega,by omega⟩⟩
theorem tmod_range(a:Int){b:Int}(hb:0<b) : -b<Int.tmod a b/\Int.tmod a b<b:=by
 have h1:=Int.tmod_lt_of_pos a hb
 have h2:=Int.tmod_lt_of_pos (-a) hb
 rw[Int.neg_tmod]at h2
 omega
theorem smallR_tame(r:RatV):tame (smallR r):=by
 have h1:=tmod_range r.re (b:=21) (by omega)
 have h2:=tmod_range r.im (b:=21) (by omega)
 have h3:=tmod_range r.den (b:=6) (by omega)
 refine⟨⟨?_,?_⟩,⟨?_,?_⟩,?_,?_⟩<;>simp only[smallR]<;>omega
theorem tame_zero:tame ⟨0,0,0⟩:=⟨⟨by decide,by decide⟩,⟨by decide,by decide⟩,by decide,by decide⟩
theorem tame_sz{r:RatV}(h:tame r):(ratQ r).sz<=5:=by
 obtain⟨⟨a,b⟩,⟨c,d⟩,e,f⟩:=h
 have key:Rep (ratQ r) r.re r.im (if r.den=0 then 1 else r.den.toNat):=by
  unfold ratQ
  split
  . refine⟨by omega,?_,?_⟩<;>simp only[]<;>rw[Rat.div_def]<;>simp<;>grind
  . have e:((r.den.toNat:Nat):Rat)=(r.den:Rat):=by
      have:((r.den.toNat:Nat):Int)=r.den:=by omega
      rw[<-this]; rfl
    exact⟨by omega,by simp only[e],by simp only[e]⟩
 refine key.sz ?_ ?_ ?_
 . exact bl_le_of_lt (by omega)
 . exact bl_le_of_lt (by omega)
 . exact bl_le_of_lt (by split<;>omega)
theorem small_spec{V:View}(r:RatV):CallV Try.prog n_waveportlaw07_small #[r.val] V λv _=>v=(smallR r).val:=by
 have h3:=tmod_range r.den (b:=6) (by omega)
 refine waveportlaw07_small_vc r V _ ⟨λh => ?_,λh => ?_⟩
 . simp only[decide_eq_true_eq]at h
   rw[i64w (n:=0-Int.tmod r.den 6) (by omega) (by omega),i64w (by omega) (by omega)]
   have e:0-Int.tmod r.den 6+1=(((Int.tmod r.den 6).natAbs+1:Nat):Int):=by omega
   rw[e]; rfl
 . simp only[decide_eq_false_iff_not]at h
   rw[i64w (by omega) (by omega)]
   have e:Int.tmod r.den 6+1=(((Int.tmod r.den 6).natAbs+1:Nat):Int):=by omega
   rw[e]; rfl
def rnth(rs:List RatV)(i:Nat):RatV:=rs.getD i ⟨0,0,0⟩
def repeatedR(rs:List RatV)(n:Nat):List RatV:=(List.range n).map λi=>if rs=[]then⟨0,0,0⟩else smallR (rnth rs (i%rs.length))
theorem repeatedR_tame(rs:List RatV)(n:Nat):∀r∈repeatedR rs n,tame r:=by
 intro r hr
 obtain⟨i,_,rfl⟩:=List.mem_map.1 hr
 split
 . exact tame_zero
 . exact smallR_tame _
def rfilled(n k:Nat)(f:Nat->RatV):List RatV:=(List.range k).map f++List.replicate (n-k) ⟨0,0,0⟩
theorem rfilled_length{n k:Nat}(h:k<=n)(f:Nat->RatV):(rfilled n k f).length=n:=by simp[rfilled]; omega
theorem rfilled_set{n k:Nat}(h:k<n)(f:Nat->RatV):(rfilled n k f).set k (f k)=rfilled n (k+1) f:=by
 unfold rfilled
 rw[List.set_append_right _ _ (by simp)]
 simp only[List.length_map,List.length_range,Nat.sub_self]
 have:n-k=(n-(k+1))+1:=by omega
 rw[this,List.replicate_succ,List.set_cons_zero,List.range_succ,List.map_append]; simp
theorem repeated_spec{V:View}{s:Sl}{rs:List RatV}{n:Nat}(h:RatsAt V s rs)(hr:rs.length<2^64)(hn:n<=2^32) :
 CallV Try.prog n_waveportlaw07_repeated #[s.v,.int .i64 (n:Int)] V λv V'=>∃r:Sl,v=r.v/\RatsAt V' r (repeatedR rs n):=by
 have hl:=h.len
 let f:Nat->RatV:=λi=>if rs=[]then⟨0,0,0⟩else smallR (rnth rs (i%rs.length))
 refine waveportlaw07_repeated_vc s (n:Int) V _ (λ_ x V'=>0<=x.t11/\x.t11<=n/\Cells 3 ratC V' x.o8 (rfilled n x.t11.toNat f)) (λ_ x _=>n-x.t11.toNat) ⟨⟨by omega,by omega,by omega,by omega⟩,⟨Int.le_refl 0,Int.natCast_nonneg _,?_⟩,?_⟩
 . rw[Int.toNat_natCast]
   show Cells 3 ratC V _ (rfilled n 0 f)
   have e:rfilled n 0 f=List.replicate n ⟨0,0,0⟩:=by simp[rfilled]
   rw[e]
   exact Cells.replicate rfl (ratC_of V 0 0 0) n
 rintro⟨t,o⟩ V1 l1 ⟨h0,h1,hin⟩
 dsimp only at h0 h1 hin ⊢
 rw[Int.toNat_natCast]
 refine⟨λhlt => ?_,λhge => ?_⟩
 . simp only[decide_eq_true_eq]at hlt
   have hkn:t.toNat<n:=by omega
   have e1:IntKind.i64.wrap (t+1)=t+1:=i64w (by omega) (by omega)
   have e2:(t+1).toNat=t.toNat+1:=by omega
   rw[e1]
   refine⟨λhp => ?_,λhz => ?_⟩
   . simp only[gt_iff_lt,decide_eq_true_eq]at hp
     have hm:Int.tmod t (s.len:Int)=((t.toNat%rs.length:Nat):Int):=by
      rw[Int.tmod_eq_emod_of_nonneg h0,hl]
      conv=>lhs; rw[<-Int.toNat_of_nonneg h0]
      rfl
     have hmlt:t.toNat%rs.length<rs.length:=Nat.mod_lt _ (by omega)
     rw[hm]
     obtain⟨hb,x,hx,_,hh,hs⟩:=ListAt.get (h.le l1) (t:=((t.toNat%rs.length:Nat):Int)) (Int.natCast_nonneg _) (z:=rnth rs (t.toNat%rs.length)) (by rw[Int.toNat_natCast]; simp[rnth,List.getD,hmlt])
     refine⟨by omega,hb,rnth rs (t.toNat%rs.length),hx▸hh,hs,(small_spec _).mono λv V2 l2 hv=>⟨_,hv,⟨h0,hlt⟩,Cells.room hin (by rw[rfilled_length (by omega)]; omega),⟨by omega,by omega,?_⟩,by omega⟩⟩
     rw[e2,<-rfilled_set hkn]
     have ef:f t.toNat=smallR (rnth rs (t.toNat%rs.length)):=by
      simp only[f]; rw[if_neg (by intro e; subst e; simp at hl; omega)]
     rw[ef]
     exact Cells.set0 (Cells.imp (P:=ratC) (V:=V1) (P':=ratC) (V':=V2) (λ_ _ h=>h) hin) (by rw[rfilled_length (by omega)]; omega) rfl (ratC_of V2 _ _ _)
   . simp only[gt_iff_lt,decide_eq_false_iff_not]at hz
     refine⟨⟨by omega,by omega,?_⟩,by omega⟩
     have he:rs=[]:=by apply List.eq_nil_of_length_eq_zero; omega
     rw[e2,<-rfilled_set hkn]
     have ef:f t.toNat=⟨0,0,0⟩:=by simp only[f]; rw[if_pos he]
     rw[ef]
     have:(rfilled n t.toNat f).set t.toNat ⟨0,0,0⟩=rfilled n t.toNat f:=by
      apply List.ext_getElem (by simp)
      intro i g1 g2
      rw[List.getElem_set]
      split
      . rename_i e; subst e
        simp only[rfilled]
        rw[List.getElem_append_right (by simp)]; simp
      . rfl
     rw[this]; exact hin
 . simp only[decide_eq_false_iff_not]at hge
   intro b V3 l3 hb
   have e:t.toNat=n:=by omega
   rw[e]at hin
   have e2:rfilled n n f=repeatedR rs n:=by simp[rfilled,repeatedR,f]
   rw[e2]at hin
   exact⟨_,rfl,ListAt.of_made hb (Cells.imp (P:=ratC) (V:=V1) (P':=ratC) (V':=V3) (λ_ _ h=>h) hin) (by simp[repeatedR])⟩
def exactQ(rs:List RatV)(n:Nat):List Cq:=(repeatedR rs n).map ratQ
theorem exactQ_length(rs:List RatV)(n:Nat):(exactQ rs n).length=n:=by simp[exactQ,repeatedR]
theorem exactQ_sz(rs:List RatV)(n:Nat):∀i,i<n->(nth (exactQ rs n) i).sz<=5:=by
 intro i hi
 have h:nth (exactQ rs n) i∈exactQ rs n:=by
  have hl:=exactQ_length rs n
  have:nth (exactQ rs n) i=(exactQ rs n)[i]:=by simp[nth,List.getD,hl,hi]
  rw[this]; exact List.getElem_mem _
 obtain⟨r,hr,e⟩:=List.mem_map.1 h
 rw[<-e]; exact tame_sz (repeatedR_tame rs n r hr)
theorem conjugates_spec{V:View}{s:Sl}{zs:List Cq}(h:NumsAt V s zs)(hn:zs.length<=2^32) :
 CallV Try.prog n_transform_conjugates_num_Num_ #[s.v] V λv V'=>∃r:Sl,v=r.v/\NumsAt V' r (conjF zs):=by
 have hl:=h.len
 refine transform_conjugates_num_Num__vc s V _ (λ_ x V'=>0<=x.t10/\x.t10<=s.len/\NumsIn V' x.o7 (filled s.len x.t10.toNat λi=>(nth zs i).conj)) (λ_ x _=>s.len-x.t10.toNat)
  ⟨⟨by omega,by omega,by omega,by omega⟩,⟨Int.le_refl 0,Int.natCast_nonneg _,?_⟩,?_⟩
 . rw[Int.toNat_natCast]
   show NumsIn V _ (filled s.len 0 _)
   rw[filled_zero]; exact NumsIn.zeros _ _
 rintro⟨t,o⟩ V1 l1 ⟨h0,h1,ho⟩
 dsimp only at h0 h1 ho ⊢
 rw[Int.toNat_natCast]
 refine⟨λhlt => ?_,λhge => ?_⟩
 . simp only[decide_eq_true_eq]at hlt
   obtain⟨hb,x,hx,hs,hnx⟩:=(h.le l1).get h0 (by omega)
   refine⟨hb,x,hx,hs,(Num_Conj_spec hnx).mono λv V2 l2 ⟨r,hv,hr⟩=>⟨r,hv,⟨h0,hlt⟩,Cells.room ho (by rw[filled_length (by omega)]; omega),?_⟩⟩
   have e:IntKind.i64.wrap (t+1)=t+1:=i64w (by omega) (by omega)
   have e2:(t+1).toNat=t.toNat+1:=by omega
   rw[e]
   refine⟨⟨by omega,by omega,?_⟩,by omega⟩
   rw[e2,<-filled_set (by omega)]
   exact(ho.le l2).set (by rw[filled_length (by omega)]; omega) hr
 . simp only[decide_eq_false_iff_not]at hge
   intro b V3 l3 hb
   have e:t.toNat=s.len:=by omega
   rw[e,filled_all]at ho
   refine⟨_,rfl,ListAt.of_made (zs:=conjF zs) hb ?_ (by simp[conjF,hl])⟩
   unfold conjF
   rw[<-hl]; exact ho.le l3
theorem of_spec{V:View}{p q:Int}(p0 : -9223372036854775808<=p)(p1:p<=9223372036854775807)(q0 : -9223372036854775808<=q)(q1:q<=9223372036854775807)(hq:q≠0) :
 CallV Try.prog n_transform_of_num_Num_ #[.int .i64 p,.int .i64 q] V λv V'=>∃r:NumV,v=r.val/\NumAt V' r ⟨(p:Rat) / (q:Rat),((0:Int):Rat) / (q:Rat)⟩:=by
 refine transform_of_num_Num__vc p q V _ ((num_New_spec p0 p1 (by omega) (by omega) q0 q1 hq).mono λv V1 l1 ⟨r,hv,hr⟩=>⟨r,0,hv,?_⟩)
 exact(Num_Of_spec hr).mono λv V2 l2 ⟨r3,hv,h3⟩=>⟨r3,hv,r3,rfl,h3⟩
theorem shares_spec{V:View}{l:List Value}{zs:List Cq}{c:Nat}(h:NumsIn V l zs)(h1:1<=zs.length)(hn:zs.length<=64)(hS:∀i,i<zs.length->(nth zs i).sz<=2^39) :
 CallDS Try.prog n_transform_shares_num_Num_ (λb=>(Value.slice (some ⟨b,0,none⟩) zs.length c::[]:List Value)) TN_num_Num l V λl' V'=>NumsIn V' l' (sharesF zs):=by
 refine transform_shares_num_Num__vc 0 zs.length c l V _ (λ_ x V'=>0<=x.t10/\x.t10<=zs.length/\NumsIn V' x.o0 (patch zs.length x.t10.toNat (λi=>nth zs i*partQ zs.length) (nth zs))) (λ_ x _=>zs.length-x.t10.toNat) ?_
 refine(of_spec (p:=1) (q:=(zs.length:Int)) (by omega) (by omega) (by omega) (by omega) (by omega)).mono λv V1 l1 ⟨r1,hv,hr1⟩=>⟨r1,hv,⟨Int.le_refl 0,Int.natCast_nonneg _,?_⟩,?_⟩
 . show NumsIn V1 l (patch zs.length 0 _ _)
   rw[patch_zero]; exact h.le l1
 rintro⟨t,o⟩ V2 l2 ⟨h0,ht,ho⟩
 dsimp only at h0 ht ho ⊢
 refine⟨λhlt => ?_,λhge => ?_⟩
 . simp only[decide_eq_true_eq]at hlt
   have hk:t.toNat<zs.length:=by omega
   obtain⟨x,hx,hnx⟩:=ho.cut (i:=t.toNat) (by rw[patch_length]; exact hk)
   rw[patch_nth hk (Nat.le_refl _)]at hnx
   have hs:=partQ_sz h1 hn
   refine⟨⟨h0,hlt⟩,x,hx,(Num_Mul_spec hnx (hr1.le l2) (by have:=hS _ hk; omega) (by show(partQ zs.length).sz<=_; omega)).mono λv V3 l3 ⟨r2,hv,hr2⟩=>⟨r2,hv,⟨h0,hlt⟩,Cells.room ho (by rw[patch_length]; exact hk),?_⟩⟩
   have e:IntKind.i64.wrap (t+1)=t+1:=i64w (by omega) (by omega)
   have e2:(t+1).toNat=t.toNat+1:=by omega
   rw[e]
   refine⟨⟨by omega,by omega,?_⟩,by omega⟩
   rw[e2,<-patch_set hk]
   exact(ho.le l3).set (by rw[patch_length]; exact hk) hr2
 . simp only[decide_eq_false_iff_not]at hge
   have e:t.toNat=zs.length:=by omega
   rw[e,patch_all]at ho
   exact⟨⟨rfl,rfl,rfl⟩,ho⟩
theorem lenB_pow:∀m∈List.range 7,lenB (2^m)=true:=by decide
theorem FastBack_spec{V:View}{p w:Sl}{m:Nat}{zs ws:List Cq}(S T:Nat)(hm:m<=6)(hz:zs.length=2^m)(hw:ws.length=2^m)(hp:NumsAt V p zs)(hq:NumsAt V w ws)
 (hS:∀i,i<2^m->(nth zs i).sz<=S) (hT:∀i,i<2^m->(nth ws i).sz<=T) (hsz:64*(S+T+2)<=2^39) :
 CallV Try.prog n_transform_FastBack_num_Num_ #[p.v,w.v] V λv V'=>∃r:Sl,v = .tuple #[r.v,.int .i64 0]/\NumsAt V' r (sharesF (stageF m zs (conjF ws))):=by
 have hl:lenB (2^m)=true:=lenB_pow m (by simp; omega)
 have hb:=lenB_le hl
 have hpl:=hp.len
 have hwl:=hq.len
 refine transform_FastBack_num_Num__vc p w V _ ((transform_fits_spec p w).mono λv V1 l1 hv=>⟨_,hv,λh => ?_,λ_ => ?_⟩)
 . exfalso
   rw[hwl,hw,hl,hpl,hz]at h; simp at h
 refine(conjugates_spec (hq.le l1) (by omega)).mono λv V2 l2 ⟨r2,hv,h2⟩=>⟨r2,hv,?_⟩
 have hcl:(conjF ws).length=2^m:=by rw[conjF_length,hw]
 have hT2:=conjF_sz ws T (by rw[hw]; exact hT)
 rw[hw]at hT2
 have hfs:=stageF_sz m zs (conjF ws) S T hz hcl hS hT2
 have hmul:2^m*(S+T+2)<=64*(S+T+2):=Nat.mul_le_mul_right _ hb.2
 refine(transform_stage_owned m S T hm hz hcl (hp.le (View.le_trans l1 l2)) h2 hS hT2 (by omega)).mono λn c l rest V3 l3 ⟨hn,hc,hr,hin⟩=>⟨hr,?_⟩
 have hfl:=stageF_length m zs (conjF ws)
 have hlne:l≠[]:=by
  intro e; subst e
  have:=Cells.length hin
  rw[hfl]at this
  simp at this; omega
 refine⟨⟨by omega,hlne⟩,?_⟩
 subst hn
 refine(shares_spec (c:=c) hin (by omega) (by omega) (by rw[hfl]; intro i hi; have:=hfs i hi; omega)).mono λl2' V4 l4 h4 => ?_
 intro b V5 l5 hb5
 refine⟨_,rfl,?_⟩
 rw[hc]
 exact ListAt.of_made hb5 (h4.le l5) (by rw[sharesF_length])
theorem are_true{V:View}{p q:Sl}{zs:List Cq}(hp:NumsAt V p zs)(hq:NumsAt V q zs)(hn:zs.length<=2^32)(hS:∀i,i<zs.length->(nth zs i).sz<=2^40) :
 CallV Try.prog n_waveportlaw07_are #[p.v,.int .i64 0,q.v,.int .i64 0] V λv V'=>v = .bool true:=by
 have hpl:=hp.len
 have hql:=hq.len
 refine waveportlaw07_are_vc p 0 q 0 V _ (λ_ _ _=>True) (λ_ x _=>0<=x.t25/\x.t25<=zs.length) (λ_ x _=>zs.length-x.t25.toNat) ⟨⟨λh=>absurd h (by simp),λ_=>⟨λh=>absurd h (by simp),λ_=>⟨λh => ?_,λ_=>trivial⟩⟩⟩,?_⟩
 . exfalso; simp[hpl,hql]at h
 intro _ V1 l1 _
 refine⟨⟨Int.le_refl 0,Int.natCast_nonneg _⟩,?_⟩
 rintro⟨t⟩ V2 l2 ⟨h0,ht⟩
 dsimp only at h0 ht ⊢
 refine⟨λhlt => ?_,λ_=>rfl⟩
 simp only[decide_eq_true_eq]at hlt
 have hk:t.toNat<zs.length:=by omega
 obtain⟨hb8,x8,hx8,hs8,hn8⟩:=(hp.le (View.le_trans l1 l2)).get h0 hk
 obtain⟨hb9,x9,hx9,hs9,hn9⟩:=(hq.le (View.le_trans l1 l2)).get h0 hk
 refine⟨hb8,x8,hx8,hs8,hb9,x9,hx9,hs9,(Num_Same_spec hn8 hn9 (hS _ hk) (hS _ hk)).mono λv V3 l3 hv=>⟨_,hv,λh => ?_,λ_ => ?_⟩⟩
 . exfalso; simp at h
 . have e:IntKind.i64.wrap (t+1)=t+1:=i64w (by omega) (by omega)
   rw[e]
   exact⟨⟨by omega,by omega⟩,by show zs.length-(t+1).toNat<zs.length-t.toNat; omega⟩
theorem rootsQ_ones{m:Nat}(hm:m<=2):rootsQ (2^m)=onesF m:=by
 have:m=0\/m=1\/m=2:=by omega
 rcases this with rfl|rfl|rfl<;>simp[rootsQ,onesF,all4,nth,List.range_succ,one1,one2,one4]
theorem onesF_length{m:Nat}(hm:m<=2):(onesF m).length=2^m:=by
 have:m=0\/m=1\/m=2:=by omega
 rcases this with rfl|rfl|rfl<;>rfl
theorem onesF_sz{m:Nat}(hm:m<=2):∀i,i<2^m->(nth (onesF m) i).sz<=4:=by
 have:m=0\/m=1\/m=2:=by omega
 rcases this with rfl|rfl|rfl<;>decide +kernel
def sizeM(p:Int):Nat:=(Int.tmod p 3).toNat
theorem sizeM_le{p:Int}(h:0<=p):sizeM p<=2:=by
 unfold sizeM
 rw[Int.tmod_eq_emod_of_nonneg h]; omega
theorem Fast_at{V:View}{p w:Sl}{m:Nat}{zs ws:List Cq}(S T:Nat)(hm:m<=6)(hz:zs.length=2^m)(hw:ws.length=2^m)(hp:NumsAt V p zs)(hq:NumsAt V w ws)(hS:okSz S zs)(hT:okSz T ws)(s1:1<=S)(t1:1<=T)
 (hsz:64*(S+T+2)<=2^39):CallV Try.prog n_transform_Fast_num_Num_ #[p.v,w.v] V λv V'=>∃r:Sl,v = .tuple #[r.v,.int .i64 0]/\NumsAt V' r (tranL false zs ws):=by
 have h2:2^m<=2^6:=Nat.pow_le_pow_right (by omega) hm
 have h3:=Nat.mul_le_mul_right (S+T+2) h2
 refine(transform_Fast_spec S T hm hz hw hp hq (λi _=>hS.at s1 i) (λi _=>hT.at t1 i) (by omega)).mono λv V1 _ ⟨r,hv,hr⟩=>⟨r,hv,?_⟩
 unfold tranL fastL; rw[hw,log2_pow]; exact hr
theorem FastBack_at{V:View}{p w:Sl}{m:Nat}{zs ws:List Cq}(S T:Nat)(hm:m<=6)(hz:zs.length=2^m)(hw:ws.length=2^m)(hp:NumsAt V p zs)(hq:NumsAt V w ws)(hS:okSz S zs)(hT:okSz T ws)(s1:1<=S)(t1:1<=T)
 (hsz:64*(S+T+2)<=2^39):CallV Try.prog n_transform_FastBack_num_Num_ #[p.v,w.v] V λv V'=>∃r:Sl,v = .tuple #[r.v,.int .i64 0]/\NumsAt V' r (tranL true zs ws):=by
 refine(FastBack_spec S T hm hz hw hp hq (λi _=>hS.at s1 i) (λi _=>hT.at t1 i) hsz).mono λv V1 _ ⟨r,hv,hr⟩=>⟨r,hv,?_⟩
 unfold tranL backL; rw[hw,log2_pow]; exact hr
def tfn(back:Bool):FuncId:=if back=true then n_transform_FastBack_num_Num_ else n_transform_Fast_num_Num_
theorem bothC_spec{V:View}{s w:Sl}{pf pw:Option Addr}{m:Nat}{zs ws:List Cq}(back:Bool)(S T:Nat)(hf:V.load pf=some (.func (.func (tfn back)) #[] #[]))(hl:V.load pw=some w.v)(hm:m<=6)(hz:zs.length=2^m)(hw:ws.length=2^m)(hp:NumsAt V s zs)(hq:NumsAt V w ws)
 (hS:okSz S zs) (hT:okSz T ws) (s1:1<=S) (t1:1<=T) (hsz:64*(S+T+2)<=2^39) :
 CallV Try.prog n_transform_both_num_Num__1_1 #[s.v,.pointer pf,.pointer pw] V λv V'=>∃r:Sl,v=r.v/\NumsAt V' r (tranL back zs ws):=by
 cases back with
 | true=>exact transform_both_num_Num__1_1__transform_FastBack_num_Num__vc s pf pw V _ ⟨⟨⟩,hf,w,hl,(FastBack_at S T hm hz hw hp hq hS hT s1 t1 hsz).mono λv V1 _ ⟨r,hv,hr⟩=>⟨r,0,hv,r,rfl,hr⟩⟩
 | false=>exact transform_both_num_Num__1_1__transform_Fast_num_Num__vc s pf pw V _ ⟨⟨⟩,hf,w,hl,(Fast_at S T hm hz hw hp hq hS hT s1 t1 hsz).mono λv V1 _ ⟨r,hv,hr⟩=>⟨r,0,hv,r,rfl,hr⟩⟩
theorem along_spec{V:View}{g:GridV}{f:Fn2}{w:Sl}{m:Nat}{rows:List (List Cq)}{ws:List Cq}(back:Bool)(S T:Nat)(h:RowsV 5 numC V g.rows rows)(hn:rows.length<=2^20)(hf:V.load f.p0=some (.func (.func (tfn back)) #[] #[]))(hl:V.load f.p1=some w.v)
 (hm:m<=6) (hz:∀row∈rows,row.length=2^m) (hw:ws.length=2^m) (hq:NumsAt V w ws) (hS:∀row∈rows,okSz S row) (hT:okSz T ws) (s1:1<=S) (t1:1<=T) (hsz:64*(S+T+2)<=2^39) :
 CallV Try.prog n_transform_along_num_Num_ #[g.val,f.val n_transform_both_num_Num__1_1] V λv V'=>∃r:GridV,v=r.val/\RowsV 5 numC V' r.rows (rows.map λrow=>tranL back row ws):=by
 have hgl:g.rows.len=rows.length:=h.len
 refine transform_along_num_Num__vc g f V _
  (λ_ x V'=>∃(t:Nat) (l:List Value),x.t11=t/\t<=rows.length/\LstOk 1 x.o5_0l x.o5_0c x.o21 l/\x.o5_0l=t/\Cells 1 (λV x row=>∃s:Sl,x=[s.v]/\ListAt 5 numC V s row) V' l ((rows.take t).map λrow=>tranL back row ws))
  (λ_ x _=>rows.length-x.t11.toNat) ⟨⟨0,[],rfl,by omega,LstOk.nil,rfl,rfl⟩,?_⟩
 rintro⟨t11,o4,k,c,o⟩ V1 l1 ⟨t,l,et,ht,hL,ek,hC⟩
 dsimp only at et hL ek hC ⊢
 subst et; subst ek
 rw[hgl]
 refine⟨λhlt => ?_,λhge => ?_⟩
 . have hk:k<rows.length:=by simp at hlt; omega
   have ek:=getD_get hk []
   have hmem:=List.mem_of_getElem? ek
   obtain⟨g1,s,h1,h2⟩:=(RowsV.le numC.le l1 h).row (t:=(k:Int)) (by omega) (row:=rows.getD k []) (by rw[Int.toNat_natCast]; exact ek)
   rw[hgl]at g1
   have tk:(rows.take (k+1)).map (λrow=>tranL back row ws)=(rows.take k).map (λrow=>tranL back row ws)++[tranL back (rows.getD k []) ws]:=by rw[List.take_add_one,ek]; simp
   generalize rows.getD k []=row at *
   refine⟨g1,s,h1,(bothC_spec back S T (View.load_le l1 hf) (View.load_le l1 hl) hm (hz _ hmem) hw h2 (hq.le l1) (hS _ hmem) hT s1 t1 hsz).mono λv V2 l2 ⟨r1,hv,hr⟩=>⟨r1,hv,λb1 V3 l3 _ hb1 => ?_⟩⟩
   have hnew:V3.has (some (Addr.mk b1 0 none)) [r1.v]:=rhas_block (cs:=[r1.v]) (j:=0) hb1 (λi v hv=>by rw[Nat.zero_add]; exact hv) rfl
   refine⟨l,_,hL,hnew,rfl,by intro v hv; simp at hv; subst hv; rfl,by unfold maxLen; omega,by omega,λc1 l3' hl3 => ?_⟩
   rw[i64w (by omega) (by omega)]
   have L23:=View.le_trans l2 l3
   refine⟨⟨k+1,_,by omega,by omega,hl3,rfl,?_⟩,by omega⟩
   rw[tk]
   exact(hC.imp λ_ _ ⟨s,e,hs⟩=>⟨s,e,ListAt.le (numC.le L23) L23 hs⟩).append (Cells.one rfl ⟨_,rfl,NumsAt.le l3 hr⟩)
 . have e:k=rows.length:=by simp at hge; omega
   subst e
   rw[List.take_length]at hC
   intro b2 V4 l4 hb2
   exact⟨_,rfl,ListAt.of_lst hL hb2 (hC.imp λ_ _ ⟨s,e,hs⟩=>⟨s,e,ListAt.le (numC.le l4) l4 hs⟩) (by rw[List.length_map])⟩
theorem both1_spec{V:View}{w:Sl}{pf:Option Addr}{ws:List Cq}(hq:NumsAt V w ws) :
 CallV Try.prog n_transform_both_num_Num__1 #[w.v,.pointer pf] V λv V'=>∃r:Fn2,v=r.val n_transform_both_num_Num__1_1/\r.p0=pf/\V'.load r.p1=some w.v:=by
 refine transform_both_num_Num__1_vc w pf V _ λb1 V1 l1 hb1=>⟨_,rfl,rfl,?_⟩
 have:=load_block (j:=0) hb1
 simpa [Addr.add]using this
theorem both_spec{V:View}{g:GridV}{w v:Sl}{rows:List (List Cq)}{ws vs:List Cq}(back:Bool)(S T:Nat)(h:RowsV 5 numC V g.rows rows)(hr:Rect rows)(hq:NumsAt V w ws)(hv:NumsAt V v vs)
 (hS:okRows S rows) (hT:okSz T ws) (hT2:okSz T vs) (s1:1<=S) (t1:1<=T) (hsz:64*(64*(S+T+2)+9+T+2)<=2^39) :
 CallV Try.prog n_transform_both_num_Num_ #[g.val,w.v,v.v,.func (.func (tfn back)) #[] #[]] V λu V'=>∃r:GridV,u = .tuple #[r.val,.int .i64 (bothE rows ws vs)]/\RowsV 5 numC V' r.rows (bothR back rows ws vs):=by
 have hwl:=hq.len
 have hvl:=hv.len
 have bad:∀V':View,bothOk rows ws vs=false->∃r:GridV,Value.tuple #[(GridV.mk (Sl.mk none 0 0)).val,.int .i64 4] = .tuple #[r.val,.int .i64 (bothE rows ws vs)]/\RowsV 5 numC V' r.rows (bothR back rows ws vs):=λV' e=>by
  refine⟨⟨⟨none,0,0⟩⟩,?_,?_⟩
  . unfold bothE; rw[e]; rfl
  . unfold bothR; rw[e]; exact ListAt.nil
 have tail:bothOk rows ws vs=true->∀(V3:View),V.le V3->∀(b1:Nat) (V4:View),V3.le V4->V4 b1=some (List.toArray ([.func (.func (tfn back)) #[] #[]])) ->
  CallV Try.prog n_transform_both_num_Num__1 #[w.v,.pointer (some (Addr.mk b1 0 none))] V4 λu V5=>∃r5:Fn2,u=r5.val n_transform_both_num_Num__1_1 /\
  CallV Try.prog n_transform_along_num_Num_ #[g.val,r5.val n_transform_both_num_Num__1_1] V5 λu V6=>∃r6:GridV,u=r6.val /\
  CallV Try.prog n__transform_Grid_num_Num___Turned #[r6.val] V6 λu V7=>∃r7:GridV,u=r7.val /\
  CallV Try.prog n_transform_both_num_Num__1 #[v.v,.pointer (some (Addr.mk b1 0 none))] V7 λu V8=>∃r8:Fn2,u=r8.val n_transform_both_num_Num__1_1 /\
  CallV Try.prog n_transform_along_num_Num_ #[r7.val,r8.val n_transform_both_num_Num__1_1] V8 λu V9=>∃r9:GridV,u=r9.val /\
  CallV Try.prog n__transform_Grid_num_Num___Turned #[r9.val] V9 λu V10=>∃r10:GridV,u=r10.val /\
  ∃r:GridV,Value.tuple #[r10.val,.int .i64 0] = .tuple #[r.val,.int .i64 (bothE rows ws vs)]/\RowsV 5 numC V10 r.rows (bothR back rows ws vs):=λok V3 l3 b1 V4 l4 hb1=>by
  obtain⟨n,m,hn,hm,ew,ev,M⟩:=bothOk_mid ok hr
  have L4:=View.le_trans l3 l4
  have p6:2^n<=2^6:=Nat.pow_le_pow_right (by omega) hn
  have q6:2^m<=2^6:=Nat.pow_le_pow_right (by omega) hm
  have hf:V4.load (some (Addr.mk b1 0 none))=some (.func (.func (tfn back)) #[] #[]):=by
   have:=load_block (j:=0) hb1
   simpa [Addr.add]using this
  refine(both1_spec (hq.le L4)).mono λu V5 l5 ⟨r5,hu,e1,e2⟩=>⟨r5,hu,?_⟩
  have L5:=View.le_trans L4 l5
  refine(along_spec (w:=w) back S T (RowsV.le numC.le L5 h) (by rw[M.len]; omega) (by rw[e1]; exact View.load_le l5 hf) e2 hm M.row ew (hq.le L5) hS hT s1 t1 (by omega)).mono λu V6 l6 ⟨r6,hu,h6⟩=>⟨r6,hu,?_⟩
  have M1:=M.map back ew
  have z1:=map_sz M hm back ew hS hT s1 t1
  refine(Turned_num_Num_spec h6 M1.rect (by rw[M1.len]; omega) (by rw[M1.cols]; omega) Cq.zero).mono λu V7 l7 ⟨r7,hu,h7⟩=>⟨r7,hu,?_⟩
  have M2:=M1.turn
  have z2:=turnG_sz z1 (by omega)
  have L7:=View.le_trans L5 (View.le_trans l6 l7)
  refine(both1_spec (hv.le L7)).mono λu V8 l8 ⟨r8,hu,e3,e4⟩=>⟨r8,hu,?_⟩
  have L8:=View.le_trans L7 l8
  refine(along_spec (w:=v) back _ T (RowsV.le numC.le l8 h7) (by rw[M2.len]; omega) (by rw[e3]; exact View.load_le (View.le_trans l5 (View.le_trans l6 (View.le_trans l7 l8))) hf) e4 hn M2.row ev (hv.le L8) z2 hT2 (by omega) t1 (by omega)).mono λu V9 l9 ⟨r9,hu,h9⟩=>⟨r9,hu,?_⟩
  have M3:=M2.map back ev
  refine(Turned_num_Num_spec h9 M3.rect (by rw[M3.len]; omega) (by rw[M3.cols]; omega) Cq.zero).mono λu V10 l10 ⟨r10,hu,h10⟩=>⟨r10,hu,r10,?_,?_⟩
  . unfold bothE; rw[ok]; rfl
  . unfold bothR; rw[if_pos ok]; exact h10
 have len:∀ {V':View} (n:Nat),CallV Try.prog n_transform_length #[.int .i64 (n:Int)] V' λu _=>u = .bool (lenB n):=λ{V'} n=>(transform_length_spec (by omega)).mono λu _ _ hu=>by rw[hu,Int.toNat_natCast]
 have b1:lenB ws.length=false->bothOk rows ws vs=false:=λe=>by unfold bothOk; rw[e]; rfl
 have b2:lenB vs.length=false->bothOk rows ws vs=false:=λe=>by unfold bothOk; rw[e]; simp
 have b3:gcols rows≠ws.length->bothOk rows ws vs=false:=λe=>by unfold bothOk; simp[e]
 have b4:rows.length≠vs.length->bothOk rows ws vs=false:=λe=>by unfold bothOk; simp[e]
 cases back with
 | false =>
   refine transform_both_num_Num___transform_Fast_num_Num__vc g w v ⟨⟩ V _ ((Size_num_Num_spec h).mono λu V1 l1 hu=>⟨_,_,hu,?_⟩)
   rw[hwl,hvl]
   refine(len _).mono λu V2 l2 hu=>⟨_,hu,λc=>bad V2 (b1 (by simpa using c)),λc=>(len _).mono λu V3 l3 hu=>⟨_,hu,λc2=>bad V3 (b2 (by simpa using c2)),λc2=>⟨λc3=>bad V3 (b3 λe => ?_),λc3=>⟨λc4=>bad V3 (b4 λe => ?_),λc4 => ?_⟩⟩⟩⟩
   . rw[e]at c3; simp at c3
   . rw[e]at c4; simp at c4
   . refine tail ?_ V3 (View.le_trans l1 (View.le_trans l2 l3))
     unfold bothOk
     simp at c c2 c3 c4
     have c3:gcols rows=ws.length:=by omega
     have c4:rows.length=vs.length:=by omega
     rw[c,c2,decide_eq_true c3,decide_eq_true c4]; rfl
 | true =>
   refine transform_both_num_Num___transform_FastBack_num_Num__vc g w v ⟨⟩ V _ ((Size_num_Num_spec h).mono λu V1 l1 hu=>⟨_,_,hu,?_⟩)
   rw[hwl,hvl]
   refine(len _).mono λu V2 l2 hu=>⟨_,hu,λc=>bad V2 (b1 (by simpa using c)),λc=>(len _).mono λu V3 l3 hu=>⟨_,hu,λc2=>bad V3 (b2 (by simpa using c2)),λc2=>⟨λc3=>bad V3 (b3 λe => ?_),λc3=>⟨λc4=>bad V3 (b4 λe => ?_),λc4 => ?_⟩⟩⟩⟩
   . rw[e]at c3; simp at c3
   . rw[e]at c4; simp at c4
   . refine tail ?_ V3 (View.le_trans l1 (View.le_trans l2 l3))
     unfold bothOk
     simp at c c2 c3 c4
     have c3:gcols rows=ws.length:=by omega
     have c4:rows.length=vs.length:=by omega
     rw[c,c2,decide_eq_true c3,decide_eq_true c4]; rfl
theorem ForwardGrid_spec{V:View}{g:GridV}{w v:Sl}{rows:List (List Cq)}{ws vs:List Cq}(S T:Nat)(h:RowsV 5 numC V g.rows rows)(hr:Rect rows)(hq:NumsAt V w ws)(hv:NumsAt V v vs)
 (hS:okRows S rows) (hT:okSz T ws) (hT2:okSz T vs) (s1:1<=S) (t1:1<=T) (hsz:64*(64*(S+T+2)+9+T+2)<=2^39) :
 CallV Try.prog n_transform_ForwardGrid_num_Num_ #[g.val,w.v,v.v] V λu V'=>∃r:GridV,u = .tuple #[r.val,.int .i64 (bothE rows ws vs)]/\RowsV 5 numC V' r.rows (bothR false rows ws vs) :=
 transform_ForwardGrid_num_Num__vc g w v V _ ((both_spec false S T h hr hq hv hS hT hT2 s1 t1 hsz).mono λu V1 _ ⟨r,hu,h1⟩=>⟨r,_,hu,r,rfl,h1⟩)
theorem BackGrid_spec{V:View}{g:GridV}{w v:Sl}{rows:List (List Cq)}{ws vs:List Cq}(S T:Nat)(h:RowsV 5 numC V g.rows rows)(hr:Rect rows)(hq:NumsAt V w ws)(hv:NumsAt V v vs)
 (hS:okRows S rows) (hT:okSz T ws) (hT2:okSz T vs) (s1:1<=S) (t1:1<=T) (hsz:64*(64*(S+T+2)+9+T+2)<=2^39) :
 CallV Try.prog n_transform_BackGrid_num_Num_ #[g.val,w.v,v.v] V λu V'=>∃r:GridV,u = .tuple #[r.val,.int .i64 (bothE rows ws vs)]/\RowsV 5 numC V' r.rows (bothR true rows ws vs) :=
 transform_BackGrid_num_Num__vc g w v V _ ((both_spec true S T h hr hq hv hS hT hT2 s1 t1 hsz).mono λu V1 _ ⟨r,hu,h1⟩=>⟨r,_,hu,r,rfl,h1⟩)
section
variable {α:Type} {sz:Nat} {P:View->List Value->α->Prop}
theorem Cells.take{V:View}:∀ {zs:List α} {o:List Value} (k:Nat),Cells sz P V o zs->Cells sz P V (o.take (k*sz)) (zs.take k)
 | [],o,k,h=>by rw[show o=[]from h]; simp; rfl
 | z::zs,o,0,h=>by simp; rfl
 | z::zs,_,k+1,⟨x,o',e,hx,p,h⟩=>by
   rw[e,Nat.add_mul,Nat.one_mul,Nat.add_comm (k*sz) sz,<-hx,List.take_length_add_append,hx]
   exact⟨x,_,rfl,hx,p,Cells.take k h⟩
theorem ListAt.take{V:View}{s:Sl}{zs:List α}(h:ListAt sz P V s zs){k:Nat}(hk:k<=zs.length):ListAt sz P V ⟨s.a,k,s.cap⟩ (zs.take k):=by
 have h1:=h.len
 have h2:=h.cap
 obtain⟨o,h3,h4⟩:=h.cells
 refine⟨by simp only[List.length_take]; omega,by simp only; omega,λhne=>h.some λe=>by subst e; simp at hne,o.take (k*sz),λj v hj => ?_,Cells.take k h4⟩
 rw[List.getElem?_take]at hj
 split at hj
 . exact h3 j v hj
 . simp at hj
end
theorem one_shl{p:Int}(h:0<=p):0<=Int.tmod p 3/\IntKind.i64.wrap (1*2^(min (Int.toNat (Int.tmod p 3)) (IntKind.bits .i64)))=((2^sizeM p:Nat):Int):=by
 have hm:=sizeM_le h
 have h0:0<=Int.tmod p 3:=by rw[Int.tmod_eq_emod_of_nonneg h]; omega
 refine⟨h0,?_⟩
 unfold sizeM at hm ⊢
 generalize Int.toNat (Int.tmod p 3)=k at hm
 have:k=0\/k=1\/k=2:=by omega
 rcases this with rfl|rfl|rfl<;>decide
def cellR(rs:List RatV)(n m:Nat)(i k:Nat):Cq:=nth (exactQ rs (n*m)) (m*i+k)
theorem cellR_sz(rs:List RatV){n m i k:Nat}(hi:i<n)(hk:k<m):(cellR rs n m i k).sz<=5:=by
 refine exactQ_sz rs (n*m) _ ?_
 have:m*(i+1)<=m*n:=Nat.mul_le_mul_left _ hi
 rw[Nat.mul_add,Nat.mul_one]at this
 rw[Nat.mul_comm n m]; omega
set_option maxHeartbeats 1000000 in
theorem rows_spec{V:View}{s:Sl}{rs:List RatV}{n m:Nat}(h:RatsAt V s rs)(hr:rs.length<2^64)(n1:1<=n)(n4:n<=4)(m1:1<=m)(m4:m<=4) :
 CallV Try.prog n_waveportlaw07_rows #[s.v,.int .i64 (n:Int),.int .i64 (m:Int)] V λv V'=>∃g:GridV,v=g.val/\RowsV 5 numC V' g.rows (gridR (matL n m (cellR rs n m))):=by
 have hnm:n*m<=4*4:=Nat.mul_le_mul n4 m4
 have hl0:=exactQ_length rs (n*m)
 refine waveportlaw07_rows_vc s n m V _
  (λc x V'=>∃t:Nat,x.t22=t/\t<=n/\x.o13.length=n/\∀i,i<t->∃q:Sl,x.o13[i]?=some q.v/\ListAt 5 numC V' q (rowL m (cellR rs n m i))) (λ_ x _=>n-x.t22.toNat) ?_
 rw[<-Int.natCast_mul,i64w (n:=((n*m:Nat):Int)) (by omega) (by omega),Int.toNat_natCast]
 refine⟨⟨by omega,by omega,by omega,by omega⟩,(repeated_spec h hr (by omega)).mono λv V1 l1 ⟨r1,hv,h1⟩=>⟨r1,hv,?_⟩⟩
 refine(law1_List_spec h1 (λr hr=>(repeatedR_tame rs _ r hr).ok) (by simp[repeatedR]; omega)).mono λv V2 l2 ⟨r2,hv,h2⟩=>⟨r2,hv,⟨0,rfl,by omega,by simp,λi hi=>by omega⟩,?_⟩
 have h2:NumsAt V2 r2 (exactQ rs (n*m)):=h2
 have hlen:=h2.len
 have hcap:=h2.cap
 rintro⟨t22,o6,o13⟩ V3 l3 ⟨t,et,ht,hol,hR⟩
 dsimp only at et hol hR ⊢
 subst et
 refine⟨λhlt => ?_,λhge => ?_⟩
 . have hk:t<n:=by have:=of_decide_eq_true hlt; omega
   have hmt:m*(t+1)<=m*n:=Nat.mul_le_mul_left _ hk
   rw[Nat.mul_add,Nat.mul_one,Nat.mul_comm m n]at hmt
   rw[<-Int.natCast_mul,i64w (n:=((m*t:Nat):Int)) (by omega) (by omega),i64w (n:=((m*t:Nat):Int)+(m:Int)) (by omega) (by omega),i64w (by omega) (by omega)]
   refine⟨⟨by omega,by omega,by omega⟩,⟨by omega,by omega⟩,by rw[hol]; omega,⟨t+1,by omega,by omega,by simp[hol],λi hi => ?_⟩,by omega⟩
   have e1:(0+Int.toNat (t:Int)*1)=t:=by omega
   rw[e1]
   by_cases e:i=t
   . subst e
     rw[List.getElem?_set_self (by omega)]
     have hd:=ListAt.take (ListAt.drop (ListAt.le (P:=numC) (numC.le l3) l3 h2) (k:=m*i) (by omega)) (k:=m) (by rw[List.length_drop]; omega)
     have er:((exactQ rs (n*m)).drop (m*i)).take m=rowL m (cellR rs n m i):=by
      apply List.ext_getElem?
      intro k
      by_cases c:k<m
      . rw[rowL_get c,List.getElem?_take_of_lt c,List.getElem?_drop,nth_get (by omega)]; rfl
      . rw[List.getElem?_eq_none (by rw[List.length_take]; omega),List.getElem?_eq_none (by rw[rowL_length]; omega)]
     rw[er]at hd
     have z1:Int.toNat ((m*i:Nat):Int)=m*i:=Int.toNat_natCast _
     have z2:Int.toNat (((m*i:Nat):Int)+(m:Int))-m*i=m:=by omega
     rw[z1,z2]
     exact⟨_,rfl,hd⟩
   . rw[List.getElem?_set_ne (λc=>e c.symm)]
     exact hR i (by omega)
 . have e:t=n:=by have:=of_decide_eq_false hge; omega
   subst e
   intro b1 V4 l4 hb1
   have hC:Cells 1 (λV x row=>∃s:Sl,x=[s.v]/\ListAt 5 numC V s row) V4 o13 (matL t m (cellR rs t m)):=by
    refine Cells.ofFn (by rw[hol,matL_length]) λi x row hx hr => ?_
    have hi:i<t:=by
     rcases Nat.lt_or_ge i t with g|g
     . exact g
     . rw[List.getElem?_eq_none (by omega)]at hx; simp at hx
    rw[matL_get hi]at hr
    obtain rfl:=Option.some.inj hr
    obtain⟨q,eq,hq⟩:=hR i hi
    rw[eq]at hx
    obtain rfl:=Option.some.inj hx
    exact⟨q,rfl,ListAt.le (P:=numC) (numC.le l4) l4 hq⟩
   have hG:RowsV 5 numC V4 ⟨some ⟨b1,0,none⟩,t,t⟩ (matL t m (cellR rs t m)):=ListAt.of_made hb1 hC (by rw[matL_length])
   exact(NewGrid_num_Num_spec hG).mono λv V5 l5 ⟨g,hv,hg⟩=>⟨g,_,hv,g,rfl,hg⟩
theorem equal_spec{V:View}{g q:GridV}{rows:List (List Cq)}(h:RowsV 5 numC V g.rows rows)(hq:RowsV 5 numC V q.rows rows)(hn:rows.length<=64)(hb:∀row,row∈rows->row.length<=64)(hS:okRows (2^40) rows) :
 CallV Try.prog n_waveportlaw07_equal #[g.val,q.val] V λv _=>v = .bool true:=by
 refine waveportlaw07_equal_vc g q V _ (λ_ _ _=>True) (λc x _=>∃t:Nat,x.t33=t/\t<=rows.length) (λ_ x _=>rows.length-x.t33.toNat) ?_
 refine(Size_num_Num_spec h).mono λv V1 l1 hv=>⟨_,_,hv,(Size_num_Num_spec (RowsV.le numC.le l1 hq)).mono λv V2 l2 hv=>⟨_,_,hv,⟨λc=>absurd c (by simp),λ_=>⟨λc=>absurd c (by simp),λ_=>trivial⟩⟩,?_⟩⟩
 intro x1 V3 l3 _
 refine⟨⟨0,rfl,by omega⟩,?_⟩
 rintro⟨t33⟩ V4 l4 ⟨t,et,ht⟩
 dsimp only at et ⊢
 subst et
 have L4:=View.le_trans l1 (View.le_trans l2 (View.le_trans l3 l4))
 refine⟨λhlt => ?_,λhge=>rfl⟩
 have hk:t<rows.length:=by have:=of_decide_eq_true hlt; omega
 have hmem:=List.mem_of_getElem? (getD_get hk [])
 have b30:∀row,row∈rows->row.length<=2^30:=λrow hr=>Nat.le_trans (hb row hr) (by decide)
 refine(RowV_num_Num (i:=(t:Int)) (RowsV.le numC.le L4 h) b30).mono λv V5 l5 ⟨r5,e6,hv,h5,_⟩=>⟨r5,e6,hv,?_⟩
 refine(RowV_num_Num (i:=(t:Int)) (RowsV.le numC.le (View.le_trans L4 l5) hq) b30).mono λv V6 l6 ⟨r7,e8,hv,h7,_⟩=>⟨r7,e8,hv,?_⟩
 obtain⟨rfl,k5⟩:=h5 ⟨by omega,by omega⟩
 obtain⟨rfl,k7⟩:=h7 ⟨by omega,by omega⟩
 rw[Int.toNat_natCast]at k5 k7
 have hrow:=hb _ hmem
 refine(are_true (ListAt.le (P:=numC) (numC.le l6) l6 k5) k7 (by omega) (λi hi=>hS _ hmem _ (List.mem_of_getElem? (nth_get hi)))).mono λv V7 l7 hv=>⟨_,hv,λc=>absurd c (by simp),λ_ => ?_⟩
 rw[i64w (by omega) (by omega)]
 exact⟨⟨t+1,by omega,by omega⟩,by omega⟩
set_option maxHeartbeats 1000000 in
theorem TransformRectangles_spec{V:View}{s:Sl}{rs:List RatV}{p1 p2:Int}(h:RatsAt V s rs)(hr:rs.length<2^64)(a1:0<=p1)(a2:0<=p2) :
 CallV Try.prog n_waveportlaw07_TransformRectangles #[s.v,.int .u8 p1,.int .u8 p2] V λv _=>v = .bool true:=by
 obtain⟨t1,e1⟩:=one_shl a1
 obtain⟨t2,e2⟩:=one_shl a2
 have hn:=sizeM_le a1
 have hm:=sizeM_le a2
 refine waveportlaw07_TransformRectangles_vc s p1 p2 V _ ⟨t1,t2,?_⟩
 rw[e1,e2]
 generalize sizeM p1=n at hn
 generalize sizeM p2=m at hm
 have pn:1<=2^n/\2^n<=4:=⟨pow1 n,by have:2^n<=2^2:=Nat.pow_le_pow_right (by omega) hn; omega⟩
 have pm:1<=2^m/\2^m<=4:=⟨pow1 m,by have:2^m<=2^2:=Nat.pow_le_pow_right (by omega) hm; omega⟩
 have cn:2^n=1\/2^n=2\/2^n=4:=by
  have:n=0\/n=1\/n=2:=by omega
  rcases this with rfl|rfl|rfl<;>simp
 have cm:2^m=1\/2^m=2\/2^m=4:=by
  have:m=0\/m=1\/m=2:=by omega
  rcases this with rfl|rfl|rfl<;>simp
 let A:=cellR rs (2^n) (2^m)
 have mat_rect:∀ {n m:Nat} (A:Nat->Nat->Cq),1<=n->Rect (matL n m A):=λ{n m} A h1 row hr=>by
  rw[mat_cols A h1]
  unfold matL at hr
  obtain⟨i,_,rfl⟩:=List.mem_map.1 hr
  exact rowL_length _ _
 have hgr:gridR (matL (2^n) (2^m) A)=matL (2^n) (2^m) A:=by
  unfold gridR
  rw[if_pos]
  unfold gridOkB
  rw[matL_length,decide_eq_true pn.1,decide_eq_true (by omega:2^n<=64),Bool.true_and,Bool.true_and,List.all_eq_true]
  intro row hr
  have e:=mat_rect A pn.1 row hr
  rw[mat_cols A pn.1]at e
  unfold growOk
  rw[mat_cols A pn.1,e,decide_eq_true pm.1,decide_eq_true (by omega:2^m<=64),decide_eq_true rfl]; rfl
 have hM:Mid (matL (2^n) (2^m) A) n m:=⟨mat_rect A pn.1,matL_length _ _ _,mat_cols A pn.1⟩
 have hwo:∀ {m:Nat},m<=2->(onesF m).length=2^m:=λhm=>onesF_length hm
 have hT:∀ {m:Nat},m<=2->okSz 4 (onesF m):=λ{m} hm=>okSz.of λi hi=>onesF_sz hm i (by rw[hwo hm]at hi; exact hi)
 have hS:okRows 5 (matL (2^n) (2^m) A):=by
  intro row hr z hz
  unfold matL at hr
  obtain⟨i,hi,rfl⟩:=List.mem_map.1 hr
  unfold rowL at hz
  obtain⟨k,hk,rfl⟩:=List.mem_map.1 hz
  exact cellR_sz rs (by simpa using hi) (by simpa using hk)
 have hok:∀ {n m:Nat} {rows:List (List Cq)},n<=2->m<=2->Mid rows n m->bothOk rows (onesF m) (onesF n)=true:=λ{n m rows} hn hm h=>by
  unfold bothOk
  rw[hwo hm,hwo hn,h.cols,h.len,decide_eq_true rfl,decide_eq_true rfl,lenB_pow m (by simp; omega),lenB_pow n (by simp; omega)]; rfl
 have hE:∀ {n m:Nat} {rows:List (List Cq)},n<=2->m<=2->Mid rows n m->bothE rows (onesF m) (onesF n)=0:=λhn hm h=>by unfold bothE; rw[if_pos (hok hn hm h)]
 have hR:∀ {n m:Nat} {rows:List (List Cq)} (b:Bool),n<=2->m<=2->Mid rows n m->bothR b rows (onesF m) (onesF n)=bothF b rows (onesF m) (onesF n):=λb hn hm h=>by unfold bothR; rw[if_pos (hok hn hm h)]
 refine(rows_spec h hr pn.1 pn.2 pm.1 pm.2).mono λv V1 l1 ⟨r1,hv,h1⟩=>⟨r1,hv,?_⟩
 rw[hgr]at h1
 refine(transform_Exact_spec cm).mono λv V2 l2 ⟨r2,hv,h2⟩=>⟨r2,_,hv,(transform_Exact_spec cn).mono λv V3 l3 ⟨r4,hv,h4⟩=>⟨r4,_,hv,?_⟩⟩
 rw[rootsQ_ones hm]at h2
 rw[rootsQ_ones hn]at h4
 let F:=bothF false (matL (2^n) (2^m) A) (onesF m) (onesF n)
 have mF:Mid F n m:=bothF_mid hM false (hwo hm) (hwo hn)
 have sF:okRows (64*(64*(5+4+2)+9+4+2)+9) F:=bothF_sz hM (by omega) (by omega) false (hwo hm) (hwo hn) hS (hT hm) (hT hn) (by omega) (by omega)
 refine(ForwardGrid_spec 5 4 (RowsV.le numC.le (View.le_trans l2 l3) h1) hM.rect (h2.le l3) h4 hS (hT hm) (hT hn) (by omega) (by omega) (by decide)).mono λv V4 l4 ⟨r6,hv,h6⟩=>⟨r6,_,hv,?_⟩
 rw[hR false hn hm hM]at h6
 have h6:RowsV 5 numC V4 r6.rows F:=h6
 refine(BackGrid_spec (64*(64*(5+4+2)+9+4+2)+9) 4 h6 mF.rect (h2.le (View.le_trans l3 l4)) (h4.le l4) sF (hT hm) (hT hn) (by omega) (by omega) (by decide)).mono λv V5 l5 ⟨r8,hv,h8⟩=>⟨r8,_,hv,?_⟩
 have eB:bothR true F (onesF m) (onesF n)=matL (2^n) (2^m) A:=by rw[hR true hn hm mF]; exact both_undo hn hm A
 rw[eB]at h8
 have L15:=View.le_trans l2 (View.le_trans l3 (View.le_trans l4 l5))
 have lenA:(matL (2^n) (2^m) A).length=2^n:=matL_length _ _ _
 have colA:gcols (matL (2^n) (2^m) A)=2^m:=mat_cols A pn.1
 refine(Turned_num_Num_spec (RowsV.le numC.le L15 h1) hM.rect (by omega) (by omega) Cq.zero).mono λv V6 l6 ⟨r10,hv,h10⟩=>⟨r10,hv,?_⟩
 have mT:Mid (turnG Cq.zero (matL (2^n) (2^m) A)) m n:=hM.turn
 have sT:=turnG_sz hS (by omega)
 refine(ForwardGrid_spec 5 4 h10 mT.rect (h4.le (View.le_trans l4 (View.le_trans l5 l6))) (h2.le (View.le_trans l3 (View.le_trans l4 (View.le_trans l5 l6)))) sT (hT hn) (hT hm) (by omega) (by omega) (by decide)).mono λv V7 l7 ⟨r11,hv,h11⟩=>⟨r11,_,hv,?_⟩
 have eT:bothR false (turnG Cq.zero (matL (2^n) (2^m) A)) (onesF n) (onesF m)=turnG Cq.zero F:=by rw[hR false hm hn mT]; exact both_turn A (hwo hm) (hwo hn)
 rw[eT]at h11
 have L17:=View.le_trans L15 (View.le_trans l6 l7)
 refine(Size_num_Num_spec (RowsV.le numC.le L17 h1)).mono λv V8 l8 hv=>⟨_,_,hv,?_⟩
 rw[hE hn hm hM,hE hn hm mF,hE hm hn mT,lenA,colA]
 refine⟨λ_=>⟨λ_=>⟨λ_=>⟨λ_=>⟨λ_=>⟨λ_=>⟨λ_ => ?_,λc=>absurd c (by simp)⟩,λc=>absurd c (by simp)⟩,λc=>absurd c (by simp)⟩,λc=>absurd c (by simp)⟩,λc=>absurd c (by simp)⟩,λc=>absurd c (by simp)⟩,λc=>absurd c (by simp)⟩
 have L18:=View.le_trans L17 l8
 have S40:∀ {S:Nat} {rows:List (List Cq)},S<=2^40->okRows S rows->okRows (2^40) rows:=λh hS row hr z hz=>Nat.le_trans (hS row hr z hz) h
 have b64:∀ {n m:Nat} {rows:List (List Cq)},n<=2->m<=2->Mid rows n m->rows.length<=64/\∀row,row∈rows->row.length<=64:=λ{n m rows} hn hm h=>by
  have g1:2^n<=2^2:=Nat.pow_le_pow_right (by omega) hn
  have g2:2^m<=2^2:=Nat.pow_le_pow_right (by omega) hm
  exact⟨by rw[h.len]; omega,λrow hr=>by rw[h.row row hr]; omega⟩
 refine(equal_spec (RowsV.le numC.le (View.le_trans l6 (View.le_trans l7 l8)) h8) (RowsV.le numC.le L18 h1) (b64 hn hm hM).1 (b64 hn hm hM).2 (S40 (by decide) hS)).mono λv V9 l9 hv=>⟨_,hv,λ_ => ?_,λc=>absurd c (by simp)⟩
 have L49:=View.le_trans l5 (View.le_trans l6 (View.le_trans l7 (View.le_trans l8 l9)))
 have lF:=b64 hn hm mF
 refine(Turned_num_Num_spec (RowsV.le numC.le L49 h6) mF.rect (by omega) (by rw[mF.cols]; omega) Cq.zero).mono λv V10 l10 ⟨r16,hv,h16⟩=>⟨r16,hv,?_⟩
 have bT:=b64 hm hn mF.turn
 refine(equal_spec (RowsV.le numC.le (View.le_trans l8 (View.le_trans l9 l10)) h11) h16 bT.1 bT.2 (S40 (by decide) (turnG_sz sF (by omega)))).mono λv V11 l11 hv=>⟨_,hv,λ_ => ?_,λc=>absurd c (by simp)⟩
 have L111:=View.le_trans L18 (View.le_trans l9 (View.le_trans l10 l11))
 refine(Turned_num_Num_spec (RowsV.le numC.le L111 h1) hM.rect (by omega) (by omega) Cq.zero).mono λv V12 l12 ⟨r18,hv,h18⟩=>⟨r18,hv,?_⟩
 have bA:=b64 hm hn mT
 refine(Turned_num_Num_spec h18 mT.rect (by omega) (by rw[mT.cols]; omega) Cq.zero).mono λv V13 l13 ⟨r19,hv,h19⟩=>⟨r19,hv,?_⟩
 rw[turn_turn A pn.1 pm.1]at h19
 refine(equal_spec h19 (RowsV.le numC.le (View.le_trans L111 (View.le_trans l12 l13)) h1) (b64 hn hm hM).1 (b64 hn hm hM).2 (S40 (by decide) hS)).mono λv V14 l14 hv=>⟨_,hv,λ_ => ?_,λc=>absurd c (by simp)⟩
 exact awake_spec.mono λv V15 _ hv=>⟨_,hv,rfl⟩
