/- Part of the proof; it has the parts CNum1 CTr1 COpen COpen6 CElN CMatN CGridN CTurnN CR1 CR2 CR3a CR3 CR4 CTxt CR5 CTr2 CFor CBack CShf. -/
import Derived.Test.YtfdaofhjkdabbaaGreatPartC
import Derived.Deep.Slices
namespace Go.Proofs.YtfdaofhjkdabbaaGreat
open Go Go.Vc Go.Proofs
theorem nat_gcd_spec {V:View} {s t:Sl} {a b:Nat} (hs:NatAt V s a) (ht:NatAt V t b) (ha:wn a≤2^43) (hb:wn b≤2^43) :
 CallV Tryz.prog n_nat_gcd #[s.v,t.v] V fun v V'=>∃r:Sl,v=r.v∧NatAt V' r (Nat.gcd a b):=by
 refine nat_gcd_vc s t V _ (fun _ x V'=>∃a' b',NatAt V' x.t0 a'∧NatAt V' x.t1 b'∧wn a'≤2^43∧wn b'≤2^43∧Nat.gcd a' b'=Nat.gcd a b) (fun _ x V'=>natVal V' x.t1) ⟨⟨a,b,hs,ht,ha,hb,rfl⟩,?_⟩
 rintro⟨x,y⟩ V1 l1 ⟨a',b',hx,hy,wa,wb,hg⟩
 simp only at hx hy ⊢
 have hyl:=hy.len
 refine⟨fun hp => ?_,fun hp => ?_⟩
 · simp only[gt_iff_lt,decide_eq_true_eq]at hp
   have hb0:b'≠0:=fun e=>by rw[←hy.len_zero]at e; omega
   refine(nat_div_spec hx hy wa hb0).mono fun v V2 l2 ⟨q,r,hv,hq,hr⟩=>⟨q,r,hv,?_⟩
   have hlt:a'%b'<b':=Nat.mod_lt _ (by omega)
   have hwr:wn (a'%b')≤wn b':=wn_mono (Nat.le_of_lt hlt)
   refine⟨⟨b',a'%b',hy.le l2,hr,wb,by omega,?_⟩,?_⟩
   · rw[Nat.gcd_comm,←Nat.gcd_rec,Nat.gcd_comm]; exact hg
   · rw[natVal_eq hr,natVal_eq hy]; exact hlt
 · simp only[gt_iff_lt,decide_eq_false_iff_not]at hp
   have hb0:b'=0:=hy.len_zero.1 (by omega)
   subst hb0
   rw[Nat.gcd_zero_right]at hg
   exact⟨x,rfl,by rw[←hg]; exact hx⟩
theorem num_wholeOf_spec {V:View} {s:Sl} {n:Nat} (neg:Bool) (h:NatAt V s n) :
 CallV Tryz.prog n_num_wholeOf #[.bool neg,s.v] V fun v V'=>∃r:WhV,v=r.val∧IntAt V' r (if neg=true then -(n:Int)else n):=by
 have hl:=h.len_zero
 refine num_wholeOf_vc neg s V _ ⟨fun hn=>⟨_,rfl,?_,?_⟩,fun hn=>⟨_,rfl,?_,?_⟩⟩
 · rw[if_pos hn]; simp only[gt_iff_lt,decide_eq_decide]; omega
 · rw[if_pos hn]; simpa using h
 · rw[if_neg (by simp[hn])]; symm; simp only[decide_eq_false_iff_not]; omega
 · rw[if_neg (by simp[hn])]; simpa using h
theorem num_of64_spec {V:View} {n:Int} (h0 : -9223372036854775808≤n) (h1:n≤9223372036854775807) :
 CallV Tryz.prog n_num_of64 #[.int .i64 n] V fun v V'=>∃r:WhV,v=r.val∧IntAt V' r n:=by
 refine num_of64_vc n V _ ⟨fun hn => ?_,fun hn => ?_⟩
 · simp only[decide_eq_true_eq]at hn
   have e:IntKind.u64.wrap (0-IntKind.u64.wrap n) = -n:=by rw[u64m,u64m]; omega
   rw[e]
   refine(num_natOf_spec (by omega) (by omega)).mono fun v V1 _ ⟨r,hv,hr⟩=>⟨r,hv,_,rfl,by simp[hn],?_⟩
   have e2:n.natAbs=(-n).toNat:=by omega
   rw[e2]; exact hr
 · simp only[decide_eq_false_iff_not]at hn
   rw[u64w (by omega) (by omega)]
   refine(num_natOf_spec (by omega) (by omega)).mono fun v V1 _ ⟨r,hv,hr⟩=>⟨r,hv,_,rfl,by simp[hn],?_⟩
   have e2:n.natAbs=n.toNat:=by omega
   rw[e2]; exact hr
theorem whole_minus_spec {V:View} {x:WhV} {a:Int} (h:IntAt V x a) :
 CallV Tryz.prog n_whole_minus #[x.val] V fun v V'=>∃r:WhV,v=r.val∧IntAt V' r (-a):=by
 refine whole_minus_vc x V _ ((num_wholeOf_spec (!x.neg) h.2).mono fun v V1 _ ⟨r,hv,hr⟩=>⟨r,hv,r,rfl,?_⟩)
 have e:(if(!x.neg)=true then -(a.natAbs:Int)else(a.natAbs:Int)) = -a:=by
  rw[h.1]; simp only[Bool.not_eq_true',decide_eq_false_iff_not]; split<;>omega
 rw[e]at hr; exact hr
theorem whole_plus_spec {V:View} {x y:WhV} {a b:Int} (hx:IntAt V x a) (hy:IntAt V y b) (ha:wn a.natAbs≤2^43) (hb:wn b.natAbs≤2^43) :
 CallV Tryz.prog n_whole_plus #[x.val,y.val] V fun v V'=>∃r:WhV,v=r.val∧IntAt V' r (a+b):=by
 have h1:=hx.1
 have h2:=hy.1
 refine whole_plus_vc x y V _ ⟨fun hs => ?_,fun hs => ?_⟩
 · refine(nat_add_spec hx.2 hy.2 (by omega) (by omega)).mono fun v V1 l1 ⟨r,hv,hr⟩=>⟨r,hv,?_⟩
   refine(num_wholeOf_spec x.neg hr).mono fun v V2 _ ⟨w,hv,hw⟩=>⟨w,hv,w,rfl,?_⟩
   have e:(if x.neg=true then -((a.natAbs+b.natAbs:Nat):Int)else((a.natAbs+b.natAbs:Nat):Int))=a+b:=by
    rw[h1,h2]at hs; rw[h1]
    by_cases p:a<0<;>by_cases q:b<0<;>simp[p,q]at hs ⊢<;>omega
   rw[e]at hw; exact hw
 · refine(nat_cmp_spec hx.2 hy.2 (by omega)).mono fun v V1 l1 hv=>⟨_,hv,fun hc => ?_,fun hc => ?_⟩
   · have hc:b.natAbs≤a.natAbs:=by
       rcases Nat.lt_or_ge a.natAbs b.natAbs with h|h
       · rw[if_pos h]at hc; simp at hc
       · exact h
     refine(nat_sub_spec (hx.2.le l1) (hy.2.le l1) (by omega) hc).mono fun v V2 l2 ⟨r,hv,hr⟩=>⟨r,hv,?_⟩
     refine(num_wholeOf_spec x.neg hr).mono fun v V3 _ ⟨w,hv,hw⟩=>⟨w,hv,w,rfl,?_⟩
     have e:(if x.neg=true then -((a.natAbs-b.natAbs:Nat):Int)else((a.natAbs-b.natAbs:Nat):Int))=a+b:=by
      rw[h1,h2]at hs; rw[h1]
      by_cases p:a<0<;>by_cases q:b<0<;>simp[p,q]at hs ⊢<;>omega
     rw[e]at hw; exact hw
   · have hc:a.natAbs≤b.natAbs:=by
       rcases Nat.lt_or_ge b.natAbs a.natAbs with h|h
       · rw[if_neg (by omega),if_neg (by omega)]at hc; simp at hc
       · exact h
     refine(nat_sub_spec (hy.2.le l1) (hx.2.le l1) (by omega) hc).mono fun v V2 l2 ⟨r,hv,hr⟩=>⟨r,hv,?_⟩
     refine(num_wholeOf_spec y.neg hr).mono fun v V3 _ ⟨w,hv,hw⟩=>⟨w,hv,w,rfl,?_⟩
     have e:(if y.neg=true then -((b.natAbs-a.natAbs:Nat):Int)else((b.natAbs-a.natAbs:Nat):Int))=a+b:=by
      rw[h1,h2]at hs; rw[h2]
      by_cases p:a<0<;>by_cases q:b<0<;>simp[p,q]at hs ⊢<;>omega
     rw[e]at hw; exact hw
theorem sign_mul (x y a b:Int) (hx:x=if a<0 then -1 else 1) (hy:y=if b<0 then -1 else 1):a*b=x*y*(a.natAbs*b.natAbs:Nat):=by
 have ha:a=x*a.natAbs:=by rw[hx]; split<;>omega
 have hb:b=y*b.natAbs:=by rw[hy]; split<;>omega
 rw[Int.natCast_mul]
 conv=>lhs; rw[ha,hb]
 grind
theorem whole_times_spec {V:View} {x y:WhV} {a b:Int} (hx:IntAt V x a) (hy:IntAt V y b) (ha:wn a.natAbs≤2^43) (hb:wn b.natAbs≤2^43) :
 CallV Tryz.prog n_whole_times #[x.val,y.val] V fun v V'=>∃r:WhV,v=r.val∧IntAt V' r (a*b):=by
 refine whole_times_vc x y V _ ((nat_mul_spec hx.2 hy.2 (by omega) (by omega)).mono fun v V1 l1 ⟨r,hv,hr⟩=>⟨r,hv,?_⟩)
 refine(num_wholeOf_spec (!(x.neg==y.neg)) hr).mono fun v V2 _ ⟨w,hv,hw⟩=>⟨w,hv,w,rfl,?_⟩
 have e:(if(!(x.neg==y.neg))=true then -((a.natAbs*b.natAbs:Nat):Int)else((a.natAbs*b.natAbs:Nat):Int))=a*b:=by
  rw[sign_mul _ _ a b rfl rfl,hx.1,hy.1]
  by_cases p:a<0<;>by_cases q:b<0<;>simp[p,q]
 rw[e]at hw; exact hw
theorem whole_scaled_spec {V:View} {x:WhV} {s:Sl} {a:Int} {n:Nat} (hx:IntAt V x a) (hs:NatAt V s n) (ha:wn a.natAbs≤2^43) (hb:wn n≤2^43) :
 CallV Tryz.prog n_whole_scaled #[x.val,s.v] V fun v V'=>∃r:WhV,v=r.val∧IntAt V' r (a*n):=by
 refine whole_scaled_vc x s V _ ((nat_mul_spec hx.2 hs (by omega) (by omega)).mono fun v V1 l1 ⟨r,hv,hr⟩=>⟨r,hv,?_⟩)
 refine(num_wholeOf_spec x.neg hr).mono fun v V2 _ ⟨w,hv,hw⟩=>⟨w,hv,w,rfl,?_⟩
 have e:(if x.neg=true then -((a.natAbs*n:Nat):Int)else((a.natAbs*n:Nat):Int))=a*n:=by
  conv=>rhs; rw[hx.val]
  rw[Int.natCast_mul]; split
  · rw[Int.neg_mul]
  · rfl
 rw[e]at hw; exact hw
theorem num_over_spec {V:View} {x y:WhV} {s:Sl} {z:Cq} {a b:Int} {d:Nat} (hx:IntAt V x a) (hy:IntAt V y b) (hs:NatAt V s d) (hz:Rep z a b d) (ha:wn a.natAbs≤2^43) (hb:wn b.natAbs≤2^43) (hd:wn d≤2^43) :
 CallV Tryz.prog n_num_over #[x.val,y.val,s.v] V fun v V'=>∃r:NumV,v=r.val∧NumAt V' r z:=by
 obtain⟨e1,e2,e3⟩:=hz.eqs
 have hp:=gcd3_pos a b hz.pos
 have d1:=gcd3_dvd1 a b d
 have d2:=gcd3_dvd2 a b d
 have d3:=gcd3_dvd3 a b d
 refine num_over_vc x y s V _ ((nat_gcd_spec hx.2 hy.2 ha hb).mono fun v V1 l1 ⟨r1,hv,h1⟩=>⟨r1,hv,?_⟩)
 have hw1:wn (Nat.gcd a.natAbs b.natAbs)≤2^43:=by
  rcases Nat.eq_zero_or_pos a.natAbs with h|h
  · rw[h,Nat.gcd_zero_left]; exact hb
  · exact Nat.le_trans (wn_mono (Nat.le_of_dvd h (Nat.gcd_dvd_left _ _))) ha
 refine(nat_gcd_spec h1 (hs.le l1) hw1 hd).mono fun v V2 l2 ⟨r2,hv,h2⟩=>⟨r2,hv,?_⟩
 have hg:Nat.gcd (Nat.gcd a.natAbs b.natAbs) d=gcd3 a b d:=rfl
 rw[hg]at h2
 refine(nat_one_spec h2).mono fun v V3 l3 hv=>⟨_,hv,fun hn => ?_,fun hn => ?_⟩
 · have l13:=View.le_trans l1 (View.le_trans l2 l3)
   refine(nat_div_spec (hx.2.le l13) (h2.le l3) ha (by omega)).mono fun v V4 l4 ⟨q1,m1,hv,hq1,_⟩=>⟨q1,m1,hv,?_⟩
   refine(nat_div_spec (hy.2.le (View.le_trans l13 l4)) (h2.le (View.le_trans l3 l4)) hb (by omega)).mono fun v V5 l5 ⟨q2,m2,hv,hq2,_⟩=>⟨q2,m2,hv,?_⟩
   have l45:=View.le_trans l4 l5
   refine(nat_div_spec (hs.le (View.le_trans l13 l45)) (h2.le (View.le_trans l3 l45)) hd (by omega)).mono fun v V6 l6 ⟨q3,m3,hv,hq3,_⟩=>⟨q3,m3,hv,?_⟩
   have f1:IntAt V6 (WhV.mk x.neg q1) z.A:=⟨by rw[e1,div_lt_zero d1 hp]; exact hx.1,by rw[e1,natAbs_div d1]; exact hq1.le (View.le_trans l5 l6)⟩
   have f2:IntAt V6 (WhV.mk y.neg q2) z.B:=⟨by rw[e2,div_lt_zero d2 hp]; exact hy.1,by rw[e2,natAbs_div d2]; exact hq2.le l6⟩
   refine(nat_one_spec hq3).mono fun v V7 l7 hv=>⟨_,hv,fun h=>⟨_,rfl,f1.le l7,f2.le l7,?_⟩,fun h=>⟨_,rfl,f1.le l7,f2.le l7,?_⟩⟩
   · simp only[decide_eq_true_eq]at h
     rw[e3,if_pos h]; exact NatAt.zero V7
   · simp only[decide_eq_false_iff_not]at h
     rw[e3,if_neg h]; exact hq3.le l7
 · simp only[Bool.not_eq_false',decide_eq_true_eq]at hn
   rw[hn]at e1 e2 e3
   simp only[Int.natCast_one,Int.ediv_one]at e1 e2
   rw[Nat.div_one]at e3
   have l13:=View.le_trans l1 (View.le_trans l2 l3)
   refine(nat_one_spec (hs.le l13)).mono fun v V7 l7 hv=>⟨_,hv,fun h=>⟨_,rfl,?_,?_,?_⟩,fun h=>⟨_,rfl,?_,?_,?_⟩⟩
   · rw[e1]; exact hx.le (View.le_trans l13 l7)
   · rw[e2]; exact hy.le (View.le_trans l13 l7)
   · simp only[decide_eq_true_eq]at h
     rw[e3,if_pos h]; exact NatAt.zero V7
   · rw[e1]; exact hx.le (View.le_trans l13 l7)
   · rw[e2]; exact hy.le (View.le_trans l13 l7)
   · simp only[decide_eq_false_iff_not]at h
     rw[e3,if_neg h]; exact hs.le (View.le_trans l13 l7)
theorem Num_den_spec {V:View} {x:NumV} {z:Cq} (h:NumAt V x z):CallV Tryz.prog n_Num_den #[x.val] V fun v V'=>∃r:Sl,v=r.v∧NatAt V' r z.D:=by
 have hu:=h.under
 have hl:=hu.len_zero
 have hD:=z.D_pos
 refine Num_den_vc x V _ ⟨fun h0 => ?_,fun h0 => ?_⟩
 · have h0:x.under.len=0:=by have:(x.under.len:Int)=0:=(by simpa using h0); omega
   intro b V1 l1 _ hb
   have hz:=hl.1 h0
   have h1:z.D=1:=by split at hz<;>omega
   refine⟨_,rfl,?_⟩
   rw[h1]
   have:dig 1=[1]:=by rw[dig_pos (by omega)]; simp[dig_zero]
   unfold NatAt; rw[this]
   exact Words.of_block (by rw[hb]; rfl) rfl (Nat.le_refl _) (by intro d hd; simp at hd; omega)
 · have h0:x.under.len≠0:=by have:¬(x.under.len:Int)=0:=(by simpa using h0); omega
   refine⟨_,rfl,?_⟩
   have hz:¬(if z.D=1 then 0 else z.D)=0:=fun e=>h0 (hl.2 e)
   split at hz
   · omega
   · rename_i h1; rw[if_neg h1]at hu; exact hu
theorem num_Int_spec {V:View} {n:Int} (h0 : -9223372036854775808≤n) (h1:n≤9223372036854775807) :
 CallV Tryz.prog n_num_Int #[.int .i64 n] V fun v V'=>∃r:NumV,v=r.val∧NumAt V' r ⟨(n:Rat),0⟩:=by
 obtain⟨e1,e2,e3⟩:=Cq.ofInt_eqs n
 refine num_Int_vc n V _ ((num_of64_spec h0 h1).mono fun v V1 _ ⟨r,hv,hr⟩=>⟨r,hv,_,rfl,by rw[e1]; exact hr,by rw[e2]; exact IntAt.zero _,by rw[e3]; exact NatAt.zero _⟩)
theorem wn64 {n:Nat} (h:n≤18446744073709551615):wn n≤2^43:=by
 have:wn n≤2:=wn_le_of_lt (by omega)
 omega
theorem num_New_spec {V:View} {p q d:Int} (p0 : -9223372036854775808≤p) (p1:p≤9223372036854775807) (q0 : -9223372036854775808≤q) (q1:q≤9223372036854775807) (d0 : -9223372036854775808≤d) (d1:d≤9223372036854775807) (hd:d≠0) :
 CallV Tryz.prog n_num_New #[.int .i64 p,.int .i64 q,.int .i64 d] V fun v V'=>∃r:NumV,v = .tuple #[r.val,.int .i64 0]∧NumAt V' r ⟨(p:Rat) / (d:Rat),(q:Rat) / (d:Rat)⟩:=by
 refine num_New_vc p q d V _ ⟨fun h => ?_,fun _ => ?_⟩
 · exact absurd (by simpa using h) hd
 refine(num_of64_spec p0 p1).mono fun v V1 l1 ⟨a,hv,ha⟩=>⟨a,hv,?_⟩
 refine(num_of64_spec q0 q1).mono fun v V2 l2 ⟨b,hv,hb⟩=>⟨b,hv,?_⟩
 refine(num_of64_spec d0 d1).mono fun v V3 l3 ⟨c,hv,hc⟩=>⟨c,hv,fun hn => ?_,fun hn => ?_⟩
 · have hneg:d<0:=by have:=hc.1; rw[hn]at this; simpa using this.symm
   refine(whole_minus_spec (ha.le (View.le_trans l2 l3))).mono fun v V4 l4 ⟨a',hv,ha'⟩=>⟨a',hv,?_⟩
   refine(whole_minus_spec (hb.le (View.le_trans l3 l4))).mono fun v V5 l5 ⟨b',hv,hb'⟩=>⟨b',hv,?_⟩
   refine(num_over_spec (ha'.le l5) hb' (hc.2.le (View.le_trans l4 l5)) ?_ (wn64 (by omega)) (wn64 (by omega)) (wn64 (by omega))).mono fun v V6 l6 ⟨r,hv,hr⟩=>⟨r,hv,r,rfl,hr⟩
   have e:((d.natAbs:Nat):Rat) = -(d:Rat):=by
    have:(d.natAbs:Int) = -d:=by omega
    rw[←Rat.intCast_natCast,this]; push_cast; rfl
   refine⟨by omega,?_,?_⟩<;>(simp only[e]; push_cast; rw[Rat.div_def,Rat.div_def]; grind)
 · have hpos:¬d<0:=by have:=hc.1; rw[hn]at this; simpa using this.symm
   refine(num_over_spec (ha.le (View.le_trans l2 l3)) (hb.le l3) hc.2 ?_ (wn64 (by omega)) (wn64 (by omega)) (wn64 (by omega))).mono fun v V6 l6 ⟨r,hv,hr⟩=>⟨r,hv,r,rfl,hr⟩
   have e:((d.natAbs:Nat):Rat)=(d:Rat):=by
    have:(d.natAbs:Int)=d:=by omega
    rw[←Rat.intCast_natCast,this]
   refine⟨by omega,?_,?_⟩<;>simp only[e]
theorem Cq.wA {z:Cq} (h:z.sz≤2^40):wn z.A.natAbs≤2^35:=wn_bl (by have:=z.szA; omega)
theorem Cq.wB {z:Cq} (h:z.sz≤2^40):wn z.B.natAbs≤2^35:=wn_bl (by have:=z.szB; omega)
theorem Cq.wD {z:Cq} (h:z.sz≤2^40):wn z.D≤2^35:=wn_bl (by have:=z.szD; omega)
theorem wn_muli {a b:Int} {k:Nat} (ha:wn a.natAbs≤k) (hb:wn b.natAbs≤k):wn (a*b).natAbs≤2*k:=by
 rw[Int.natAbs_mul]; have:=wn_mul_le a.natAbs b.natAbs; omega
theorem wn_addi {a b:Int} {k:Nat} (ha:wn a.natAbs≤k) (hb:wn b.natAbs≤k):wn (a+b).natAbs≤k+1:=by
 have:=wn_mono (Int.natAbs_add_le a b); have:=wn_add_le a.natAbs b.natAbs; omega
theorem wn_negi {a:Int} {k:Nat} (ha:wn a.natAbs≤k):wn (-a).natAbs≤k:=by rw[Int.natAbs_neg]; exact ha
theorem Num_Add_spec {V:View} {x y:NumV} {z w:Cq} (hx:NumAt V x z) (hy:NumAt V y w) (hz:z.sz≤2^40) (hw:w.sz≤2^40) :
 CallV Tryz.prog n_Num_Add #[x.val,y.val] V fun v V'=>∃r:NumV,v=r.val∧NumAt V' r (z+w):=by
 have zA:=Cq.wA hz; have zB:=Cq.wB hz; have zD:=Cq.wD hz
 have wA:=Cq.wA hw; have wB:=Cq.wB hw; have wD:=Cq.wD hw
 have zD':wn (z.D:Int).natAbs≤2^35:=zD
 have wD':wn (w.D:Int).natAbs≤2^35:=wD
 have s1:=wn_muli zA wD'; have s2:=wn_muli wA zD'; have s3:=wn_muli zB wD'; have s4:=wn_muli wB zD'
 have s5:=wn_addi s1 s2; have s6:=wn_addi s3 s4
 have s7:=wn_mul_le z.D w.D
 refine Num_Add_vc x y V _ ((Num_den_spec hx).mono fun v V1 l1 ⟨r1,hv,h1⟩=>⟨r1,hv,?_⟩)
 replace hx:=hx.le l1; replace hy:=hy.le l1
 refine(Num_den_spec hy).mono fun v V2 l2 ⟨r2,hv,h2⟩=>⟨r2,hv,?_⟩
 replace hx:=hx.le l2; replace hy:=hy.le l2; replace h1:=h1.le l2
 refine(whole_scaled_spec hx.re h2 (by omega) (by omega)).mono fun v V3 l3 ⟨r3,hv,h3⟩=>⟨r3,hv,?_⟩
 replace hx:=hx.le l3; replace hy:=hy.le l3; replace h1:=h1.le l3; replace h2:=h2.le l3
 refine(whole_scaled_spec hy.re h1 (by omega) (by omega)).mono fun v V4 l4 ⟨r4,hv,h4⟩=>⟨r4,hv,?_⟩
 replace hx:=hx.le l4; replace hy:=hy.le l4; replace h1:=h1.le l4; replace h2:=h2.le l4; replace h3:=h3.le l4
 refine(whole_plus_spec h3 h4 (by omega) (by omega)).mono fun v V5 l5 ⟨r5,hv,h5⟩=>⟨r5,hv,?_⟩
 replace hx:=hx.le l5; replace hy:=hy.le l5; replace h1:=h1.le l5; replace h2:=h2.le l5
 refine(whole_scaled_spec hx.im h2 (by omega) (by omega)).mono fun v V6 l6 ⟨r6,hv,h6⟩=>⟨r6,hv,?_⟩
 replace hy:=hy.le l6; replace h1:=h1.le l6; replace h2:=h2.le l6; replace h5:=h5.le l6
 refine(whole_scaled_spec hy.im h1 (by omega) (by omega)).mono fun v V7 l7 ⟨r7,hv,h7⟩=>⟨r7,hv,?_⟩
 replace h1:=h1.le l7; replace h2:=h2.le l7; replace h5:=h5.le l7; replace h6:=h6.le l7
 refine(whole_plus_spec h6 h7 (by omega) (by omega)).mono fun v V8 l8 ⟨r8,hv,h8⟩=>⟨r8,hv,?_⟩
 replace h1:=h1.le l8; replace h2:=h2.le l8; replace h5:=h5.le l8
 refine(nat_mul_spec h1 h2 (by omega) (by omega)).mono fun v V9 l9 ⟨r9,hv,h9⟩=>⟨r9,hv,?_⟩
 exact(num_over_spec (h5.le l9) (h8.le l9) h9 (z.canon.rep.add w.canon.rep) (by omega) (by omega) (by omega)).mono fun v V10 _ ⟨r,hv,hr⟩=>⟨r,hv,r,rfl,hr⟩
theorem Num_Neg_spec {V:View} {x:NumV} {z:Cq} (hx:NumAt V x z):CallV Tryz.prog n_Num_Neg #[x.val] V fun v V'=>∃r:NumV,v=r.val∧NumAt V' r (-z):=by
 obtain⟨e1,e2,e3⟩:=z.neg_eqs
 refine Num_Neg_vc x V _ ((whole_minus_spec hx.re).mono fun v V1 l1 ⟨r1,hv,h1⟩=>⟨r1,hv,?_⟩)
 exact(whole_minus_spec (hx.im.le l1)).mono fun v V2 l2 ⟨r2,hv,h2⟩=>⟨r2,hv,_,rfl,by rw[e1]; exact h1.le l2,by rw[e2]; exact h2,by rw[e3]; exact hx.under.le (View.le_trans l1 l2)⟩
theorem Num_Conj_spec {V:View} {x:NumV} {z:Cq} (hx:NumAt V x z):CallV Tryz.prog n_Num_Conj #[x.val] V fun v V'=>∃r:NumV,v=r.val∧NumAt V' r z.conj:=by
 obtain⟨e1,e2,e3⟩:=z.conj_eqs
 exact Num_Conj_vc x V _ ((whole_minus_spec hx.im).mono fun v V1 l1 ⟨r1,hv,h1⟩=>⟨r1,hv,_,rfl,by rw[e1]; exact hx.re.le l1,by rw[e2]; exact h1,by rw[e3]; exact hx.under.le l1⟩)
theorem Num_Sub_spec {V:View} {x y:NumV} {z w:Cq} (hx:NumAt V x z) (hy:NumAt V y w) (hz:z.sz≤2^40) (hw:w.sz≤2^40) :
 CallV Tryz.prog n_Num_Sub #[x.val,y.val] V fun v V'=>∃r:NumV,v=r.val∧NumAt V' r (z-w):=by
 refine Num_Sub_vc x y V _ ((Num_Neg_spec hy).mono fun v V1 l1 ⟨r1,hv,h1⟩=>⟨r1,hv,?_⟩)
 rw[Cq.sub_eq]
 exact(Num_Add_spec (hx.le l1) h1 hz (by rw[Cq.sz_neg]; exact hw)).mono fun v V2 _ ⟨r,hv,hr⟩=>⟨r,hv,r,rfl,hr⟩
theorem Num_Mul_spec {V:View} {x y:NumV} {z w:Cq} (hx:NumAt V x z) (hy:NumAt V y w) (hz:z.sz≤2^40) (hw:w.sz≤2^40) :
 CallV Tryz.prog n_Num_Mul #[x.val,y.val] V fun v V'=>∃r:NumV,v=r.val∧NumAt V' r (z*w):=by
 have zA:=Cq.wA hz; have zB:=Cq.wB hz; have zD:=Cq.wD hz
 have wA:=Cq.wA hw; have wB:=Cq.wB hw; have wD:=Cq.wD hw
 have s1:=wn_muli zA wA; have s2:=wn_muli zB wB; have s2':=wn_negi s2; have s3:=wn_muli zA wB; have s4:=wn_muli zB wA
 have s5:=wn_addi s1 s2'; have s6:=wn_addi s3 s4
 have s7:=wn_mul_le z.D w.D
 refine Num_Mul_vc x y V _ ((whole_times_spec hx.re hy.re (by omega) (by omega)).mono fun v V1 l1 ⟨r1,hv,h1⟩=>⟨r1,hv,?_⟩)
 replace hx:=hx.le l1; replace hy:=hy.le l1
 refine(whole_times_spec hx.im hy.im (by omega) (by omega)).mono fun v V2 l2 ⟨r2,hv,h2⟩=>⟨r2,hv,?_⟩
 replace hx:=hx.le l2; replace hy:=hy.le l2; replace h1:=h1.le l2
 refine(whole_minus_spec h2).mono fun v V3 l3 ⟨r3,hv,h3⟩=>⟨r3,hv,?_⟩
 replace hx:=hx.le l3; replace hy:=hy.le l3; replace h1:=h1.le l3
 refine(whole_plus_spec h1 h3 (by omega) (by omega)).mono fun v V4 l4 ⟨r4,hv,h4⟩=>⟨r4,hv,?_⟩
 replace hx:=hx.le l4; replace hy:=hy.le l4
 refine(whole_times_spec hx.re hy.im (by omega) (by omega)).mono fun v V5 l5 ⟨r5,hv,h5⟩=>⟨r5,hv,?_⟩
 replace hx:=hx.le l5; replace hy:=hy.le l5; replace h4:=h4.le l5
 refine(whole_times_spec hx.im hy.re (by omega) (by omega)).mono fun v V6 l6 ⟨r6,hv,h6⟩=>⟨r6,hv,?_⟩
 replace hx:=hx.le l6; replace hy:=hy.le l6; replace h4:=h4.le l6; replace h5:=h5.le l6
 refine(whole_plus_spec h5 h6 (by omega) (by omega)).mono fun v V7 l7 ⟨r7,hv,h7⟩=>⟨r7,hv,?_⟩
 replace hx:=hx.le l7; replace hy:=hy.le l7; replace h4:=h4.le l7
 refine(Num_den_spec hx).mono fun v V8 l8 ⟨r8,hv,h8⟩=>⟨r8,hv,?_⟩
 replace hy:=hy.le l8; replace h4:=h4.le l8; replace h7:=h7.le l8
 refine(Num_den_spec hy).mono fun v V9 l9 ⟨r9,hv,h9⟩=>⟨r9,hv,?_⟩
 replace h4:=h4.le l9; replace h7:=h7.le l9; replace h8:=h8.le l9
 refine(nat_mul_spec h8 h9 (by omega) (by omega)).mono fun v V10 l10 ⟨r10,hv,h10⟩=>⟨r10,hv,?_⟩
 refine(num_over_spec (h4.le l10) (h7.le l10) h10 ?_ (by omega) (by omega) (by omega)).mono fun v V11 _ ⟨r,hv,hr⟩=>⟨r,hv,r,rfl,hr⟩
 rw[←Int.sub_eq_add_neg]; exact z.canon.rep.mul w.canon.rep
theorem Num_Real_spec {V:View} {x:NumV} {z:Cq} (hx:NumAt V x z):CallV Tryz.prog n_Num_Real #[x.val] V fun v _=>v = .bool (decide (z.im=0)):=by
 refine Num_Real_vc x V _ ?_
 have h1:=hx.im.2.len_zero
 have h2:=Cq.B_zero (z:=z)
 congr 1
 by_cases e:z.im=0
 · have:x.im.mag.len=0:=h1.2 (by rw[h2.2 e]; rfl)
   simp[e,this]
 · have:x.im.mag.len≠0:=fun h=>e (h2.1 (by have:=h1.1 h; omega))
   simp only[e,decide_false,beq_eq_false_iff_ne,ne_eq]; omega
theorem Num_Of_spec {V:View} {x y:NumV} {w:Cq} (hy:NumAt V y w):CallV Tryz.prog n_Num_Of #[x.val,y.val] V fun v V'=>∃r:NumV,v=r.val∧NumAt V' r w :=
 Num_Of_vc x y V _ ⟨y,rfl,hy⟩
def lenB (n:Nat):Bool:=[1,2,4,8,16,32,64].contains n
theorem lenB_eq:∀n∈List.range 65,1≤n→(IntKind.i64.wrap (BitVec.toNat ((BitVec.ofInt IntKind.i64.bits (n:Int)) &&& (BitVec.ofInt IntKind.i64.bits (IntKind.i64.wrap ((n:Int)-1)))))==0)=lenB n:=by
 decide +kernel
theorem lenB_le {n:Nat} (h:lenB n=true):1≤n∧n≤64:=by
 simp[lenB]at h; omega
theorem transform_length_spec {V:View} {n:Int} (h0:0≤n):CallV Tryz.prog n_transform_length #[.int .i64 n] V fun v _=>v = .bool (lenB n.toNat):=by
 refine transform_length_vc n V _ ⟨fun h1=>⟨fun h2 => ?_,fun h2 => ?_⟩,fun h1=>⟨fun h=>absurd h (by simp),fun _ => ?_⟩⟩
 · simp only[decide_eq_true_eq]at h1 h2
   have:=lenB_eq n.toNat (by simp; omega) (by omega)
   rw[Int.toNat_of_nonneg h0]at this
   rw[this]
 · simp only[decide_eq_false_iff_not]at h2
   congr 1; symm
   rw[Bool.eq_false_iff]; intro e
   have:=lenB_le e; omega
 · simp only[decide_eq_false_iff_not]at h1
   congr 1; symm
   rw[Bool.eq_false_iff]; intro e
   have:=lenB_le e; omega
theorem transform_fits_spec {V:View} (p q:Sl):CallV Tryz.prog n_transform_fits_num_Num_ #[p.v,q.v] V fun v _=>v = .bool (lenB q.len&&decide (p.len=q.len)):=by
 refine transform_fits_num_Num__vc p q V _ ((transform_length_spec (Int.natCast_nonneg _)).mono fun v V1 l1 hv=>⟨_,hv,fun h => ?_,fun h => ?_⟩)
 · rw[Int.toNat_natCast]at h
   rw[h,Bool.true_and]; congr 1
   rw[Bool.eq_iff_iff]; simp; omega
 · rw[Int.toNat_natCast]at h
   rw[h,Bool.false_and]
def ratQ (r:RatV):Cq:=if r.den=0 then⟨(r.re:Rat),(r.im:Rat)⟩else⟨(r.re:Rat) / (r.den:Rat),(r.im:Rat) / (r.den:Rat)⟩
def ratI (r:RatV):Prop:=(-9223372036854775808≤r.re∧r.re≤9223372036854775807)∧(-9223372036854775808≤r.im∧r.im≤9223372036854775807)∧(-9223372036854775808≤r.den∧r.den≤9223372036854775807)
def ratC (_:View) (x:List Value) (r:RatV):Prop:=x=r.val.cells.toList
def RatsAt (V:View) (s:Sl) (rs:List RatV):Prop:=ListAt 3 ratC V s rs
theorem RatsAt.le {V V':View} (hle:V.le V') {s:Sl} {rs:List RatV} (h:RatsAt V s rs):RatsAt V' s rs:=ListAt.le (P:=ratC) (V:=V) (V':=V') (fun _ _ h=>h) hle h
theorem law1_Of_spec {V:View} {r:RatV} (h:ratI r):CallV Tryz.prog n_law1_Of #[r.val] V fun v V'=>∃x:NumV,v=x.val∧NumAt V' x (ratQ r):=by
 obtain⟨⟨a1,a2⟩,⟨b1,b2⟩,⟨c1,c2⟩⟩:=h
 refine law1_Of_vc r V _ ⟨fun h0 => ?_,fun h0 => ?_⟩
 · have h0:r.den=0:=by simpa using h0
   refine(num_New_spec a1 a2 b1 b2 (by omega) (by omega) (by omega)).mono fun v V1 _ ⟨x,hv,hx⟩=>⟨x,0,hv,x,rfl,?_⟩
   have e:ratQ r=⟨(r.re:Rat) / ((1:Int):Rat),(r.im:Rat) / ((1:Int):Rat)⟩:=by
    unfold ratQ; rw[if_pos h0]; simp only[Rat.div_def,Cq.mk.injEq]; constructor<;>grind
   rw[e]; exact hx
 · have h0:r.den≠0:=by simpa using h0
   refine(num_New_spec a1 a2 b1 b2 c1 c2 h0).mono fun v V1 _ ⟨x,hv,hx⟩=>⟨x,0,hv,x,rfl,?_⟩
   unfold ratQ; rw[if_neg h0]; exact hx
theorem law1_List_spec {V:View} {s:Sl} {rs:List RatV} (h:RatsAt V s rs) (hi:∀r∈rs,ratI r) (hn:rs.length≤2^32) :
 CallV Tryz.prog n_law1_List #[s.v] V fun v V'=>∃r:Sl,v=r.v∧NumsAt V' r (rs.map ratQ):=by
 have hl:=h.len
 let f:Nat→Cq:=fun i=>nth (rs.map ratQ) i
 refine law1_List_vc s V _ (fun _ x V'=>0≤x.t11∧x.t11≤s.len∧NumsIn V' x.o8 (filled s.len x.t11.toNat f)) (fun _ x _=>s.len-x.t11.toNat)
  ⟨⟨by omega,by omega,by omega,by omega⟩,⟨by simp,by simp,?_⟩,?_⟩
 · simp only[Int.toNat_zero,filled_zero,Int.toNat_natCast]; exact NumsIn.zeros _ _
 rintro⟨t,o⟩ V1 l1 ⟨h0,h1,ho⟩
 simp only at h0 h1 ho ⊢
 refine⟨fun hlt => ?_,fun hge => ?_⟩
 · simp only[decide_eq_true_eq]at hlt
   have hk:t.toNat<rs.length:=by omega
   obtain⟨hb,x,hx,_,hh,hs⟩:=(h.le l1).get h0 (z:=rs[t.toNat]) (by simp[hk])
   refine⟨hb,rs[t.toNat],hx▸hh,hs,(law1_Of_spec (hi _ (List.getElem_mem _))).mono fun v V2 l2 ⟨r,hv,hr⟩=>⟨r,hv,⟨h0,by simpa using hlt⟩,?_,?_⟩⟩
   · exact Cells.room ho (by rw[filled_length (by omega)]; omega)
   · have e:IntKind.i64.wrap (t+1)=t+1:=i64w (by omega) (by omega)
     have e2:(t+1).toNat=t.toNat+1:=by omega
     have ef:f t.toNat=ratQ rs[t.toNat]:=by simp[f,nth,List.getD,hk]
     refine⟨⟨by rw[e]; omega,by rw[e]; omega,?_⟩,by simp only[e,e2]; omega⟩
     simp only[e,e2]
     rw[←filled_set (by omega),ef]
     exact(ho.le l2).set (by rw[filled_length (by omega)]; omega) hr
 · simp only[decide_eq_false_iff_not]at hge
   intro b V3 l3 hb
   have e:t.toNat=s.len:=by omega
   rw[e,filled_all]at ho
   have e2:(List.range s.len).map f=rs.map ratQ:=by
    have:=list_of_nth (rs.map ratQ)
    rw[List.length_map]at this
    rw[hl]; exact this
   rw[e2]at ho
   exact⟨_,rfl,ListAt.of_made hb (ho.le l3) (by simp[hl])⟩
theorem oneCell_num (r:NumV):∀v∈[Value.bool r.re.neg,r.re.mag.v,Value.bool r.im.neg,r.im.mag.v,r.under.v],Value.oneCell' v=true:=by
 intro v hv
 simp only[List.mem_cons,List.not_mem_nil,or_false]at hv
 rcases hv with rfl|rfl|rfl|rfl|rfl<;>rfl
theorem has_block {V:View} {b:Nat} {l:List Value} (h:V b=some l.toArray):V.has (some (Addr.mk b 0 none)) l:=by
 intro j v hj
 rw[load_block h]; simpa using hj
theorem transform_every_spec {V:View} {s:Sl} {zs:List Cq} {a:Int} (h:NumsAt V s zs) (ha:0≤a) (ha1:a≤1) (hn:zs.length≤2^32) (hn1:1≤zs.length) :
 CallV Tryz.prog n_transform_every_num_Num_ #[s.v,.int .i64 a] V fun v V'=>∃r:Sl,v=r.v∧NumsAt V' r (everyF zs a.toNat):=by
 have hl:=h.len
 refine transform_every_num_Num__vc s a V _ (fun _ x V'=>∃l,x.t6=a+2*x.t5l∧2*x.t5l+a.toNat≤zs.length+1∧LstOk 5 x.t5l x.t5c x.o5 l∧NumsIn V' l ((List.range x.t5l).map fun k=>nth zs (a.toNat+2*k)))
  (fun _ x _=>zs.length+2-2*x.t5l) ⟨⟨[],by simp,by simp; omega,LstOk.nil,rfl⟩,?_⟩
 rintro⟨n,c,t,o⟩ V1 l1 ⟨l,ht,hm,hlo,hin⟩
 simp only at ht hm hlo hin ⊢
 refine⟨fun hlt => ?_,fun hge => ?_⟩
 · simp only[decide_eq_true_eq]at hlt
   obtain⟨hb,x,hx,hs,hnx⟩:=(h.le l1).get (t:=t) (by omega) (by omega)
   refine⟨hb,x,hx,hs,fun b V2 l2 hf hV2 => ?_⟩
   refine⟨l,_,hlo,has_block (l:=[.bool x.re.neg,x.re.mag.v,.bool x.im.neg,x.im.mag.v,x.under.v]) hV2,rfl,oneCell_num x,?_,?_,fun c1 l3 hl3 => ?_⟩
   · simp only[maxLen]; omega
   · omega
   · have e:IntKind.i64.wrap (t+2)=t+2:=i64w (by omega) (by omega)
     refine⟨⟨_,by rw[e]; simp; omega,by omega,hl3,?_⟩,by omega⟩
     rw[←push_range]
     have e3:a.toNat+2*n=t.toNat:=by omega
     rw[e3]
     exact(hin.le l2).push (hnx.le l2)
 · simp only[decide_eq_false_iff_not]at hge
   intro b V3 l3 hb
   refine⟨_,rfl,?_⟩
   have e:n=(zs.length+1-a.toNat) / 2:=by omega
   unfold everyF
   rw[←e]
   exact ListAt.of_lst hlo hb (hin.le l3) (by simp)
theorem transform_stage_owned:∀(m:Nat) {V:View} {p w:Sl} {zs ws:List Cq} (S T:Nat),m≤6→zs.length=2^m→ws.length=2^m→NumsAt V p zs→NumsAt V w ws →
 (∀i,i<2^m→(nth zs i).sz≤S)→(∀i,i<2^m→(nth ws i).sz≤T)→2^m*(S+T+2)≤2^39 →
 CallO Tryz.prog n_transform_stage_num_Num_ #[p.v,w.v] TN_num_Num V fun n cap l rest V'=>n=(stageF m zs ws).length∧cap=n∧rest=[]∧NumsIn V' l (stageF m zs ws)
 | m,V,p,w,zs,ws,S,T,hm,hz,hw,hp,hq,hS,hT,hsz=>by
   have hpl:=hp.len
   have hwl:=hq.len
   have hpow:2^m≤64:=Nat.pow_le_pow_right (n:=2) (by omega) hm
   have hpos:0<2^m:=Nat.pow_pos (by omega)
   rw[stageF_length]
   refine transform_stage_num_Num__vc p w V _ (fun c x V'=>∃m' zs' ws',m=m'+1∧zs'=stageF m' (everyF zs 0) (everyF ws 0)∧ws'=stageF m' (everyF zs 1) (everyF ws 0) ∧
    NumsAt V' c.t8 zs'∧NumsAt V' c.t9 ws'∧0≤x.t36∧x.t36≤(2^m':Nat) ∧
    NumsIn V' x.o15 (halves (2^m') x.t36.toNat (fun i=>nth zs' i+nth ws' i*nth ws i) (fun i=>nth zs' i-nth ws' i*nth ws i)))
    (fun _ x _=>2^m-x.t36.toNat) ⟨⟨by omega,by omega,by omega,by omega⟩,fun h1 => ?_,fun h1 => ?_⟩
   · have h1:p.len=1:=by have:(p.len:Int)=1:=(by simpa using h1); omega
     have hm0:m=0:=by
      rcases Nat.eq_zero_or_pos m with h|h
      · exact h
      · have:2^1≤2^m:=Nat.pow_le_pow_right (by omega) h
        omega
     subst hm0
     obtain⟨hb,x,hx,hs,hnx⟩:=hp.get (t:=0) (by omega) (by simp[hz])
     have hset:=(NumsIn.zeros V 1).set (i:=0) (by simp) hnx
     refine⟨hb,x,hx,hs,⟨by omega,by omega⟩,?_,?_,?_⟩
     · simp[h1]
     · refine⟨by simp[h1],?_⟩
       intro e
       have h5:=Cells.length hset
       simp only[h1]at e
       have h6:(0:Nat)=5:=(congrArg List.length e).symm.trans h5
       omega
     · refine⟨by simp[h1],rfl,rfl,?_⟩
       simp only[h1]
       exact hset
   · have h1:p.len≠1:=by intro e; simp[e]at h1
     obtain ⟨m', rfl⟩ : ∃ m', m = m' + 1 := ⟨m - 1, by rcases Nat.eq_zero_or_pos m with h | h; · subst h; simp at hz; omega
                                                       · omega⟩
     have hp2:2^(m'+1)=2*2^m':=by rw[Nat.pow_succ]; omega
     have hmul:2^(m'+1)*(S+T+2)=2*(2^m'*(S+T+2)):=by rw[hp2,Nat.mul_assoc]
     have bz:∀a,a≤1→∀i,i<2^m'→(nth (everyF zs a) i).sz≤S:=by
      intro a ha i hi; rw[everyF_nth (by omega)]; exact hS _ (by omega)
     have bw:∀i,i<2^m'→(nth (everyF ws 0) i).sz≤T:=by
      intro i hi; rw[everyF_nth (by omega)]; exact hT _ (by omega)
     refine(transform_every_spec hq (Int.le_refl 0) (by omega) (by omega) (by omega)).mono fun v V1 l1 ⟨r1,hv,hr1⟩=>⟨r1,hv,?_⟩
     refine(transform_every_spec (hp.le l1) (Int.le_refl 0) (by omega) (by omega) (by omega)).mono fun v V2 l2 ⟨r2,hv,hr2⟩=>⟨r2,hv,?_⟩
     have ne:∀zs ws,stageF m' zs ws≠[]:=by
      intro zs ws e
      have:=stageF_length m' zs ws
      rw[e]at this; simp at this
      have:0<2^m':=Nat.pow_pos (by omega)
      omega
     refine(CallO.nums (ne _ _) (transform_stage_owned m' S T (by omega) (by simp[everyF_length]; omega) (by simp[everyF_length]; omega) hr2 (hr1.le l2) (bz 0 (by omega)) bw (by omega))).mono fun v V3 l3 ⟨r3,hv,hr3⟩=>⟨r3,hv,?_⟩
     refine(transform_every_spec (hp.le (View.le_trans l1 (View.le_trans l2 l3))) (a:=1) (by omega) (by omega) (by omega) (by omega)).mono fun v V4 l4 ⟨r4,hv,hr4⟩=>⟨r4,hv,?_⟩
     refine(CallO.nums (ne _ _) (transform_stage_owned m' S T (by omega) (by simp[everyF_length]; omega) (by simp[everyF_length]; omega) hr4 (hr1.le (View.le_trans l2 (View.le_trans l3 l4))) (bz 1 (by omega)) bw (by omega))).mono fun v V5 l5 ⟨r5,hv,hr5⟩=>⟨r5,hv,?_⟩
     have le5:View.le V V5:=View.le_trans l1 (View.le_trans l2 (View.le_trans l3 (View.le_trans l4 l5)))
     have hdiv:IntKind.i64.wrap (Int.tdiv (p.len:Int) 2)=((2^m':Nat):Int):=by
      have e:Int.tdiv (p.len:Int) 2=((2^m':Nat):Int):=by
       rw[Int.tdiv_eq_ediv_of_nonneg (by omega)]; omega
      rw[e]; exact i64w (by omega) (by omega)
     rw[hdiv]
     refine⟨⟨m',_,_,rfl,rfl,rfl,hr3.le (View.le_trans l4 l5),hr5,Int.le_refl 0,Int.natCast_nonneg _,?_⟩,?_⟩
     · simp only[Int.toNat_zero,halves_zero,Int.toNat_natCast,hpl,hz,hp2]
       exact NumsIn.zeros _ _
     rintro⟨t,o⟩ V6 l6 ⟨m2,zs',ws',em,rfl,rfl,h8,h9,h0,h1',hin⟩
     have em:m'=m2:=by omega
     subst em
     simp only at h8 h9 h0 h1' hin ⊢
     have lz:=stageF_length m' (everyF zs 0) (everyF ws 0)
     have lw:=stageF_length m' (everyF zs 1) (everyF ws 0)
     have l8:=h8.len
     have l9:=h9.len
     have lo:∀k a b,(halves (2^m') k a b).length=2*2^m':=by intro k a b; simp[halves]
     refine⟨fun hlt => ?_,fun hge => ?_⟩
     · simp only[decide_eq_true_eq]at hlt
       have hk:t.toNat<2^m':=by omega
       obtain⟨hb4,x4,hx4,hs4,hn4⟩:=h9.get h0 (by omega)
       obtain⟨hb5,x5,hx5,hs5,hn5⟩:=(hq.le (View.le_trans le5 l6)).get h0 (by omega)
       have sE:=stageF_sz m' (everyF zs 0) (everyF ws 0) S T (by simp[everyF_length]; omega) (by simp[everyF_length]; omega) (bz 0 (by omega)) bw t.toNat hk
       have sO:=stageF_sz m' (everyF zs 1) (everyF ws 0) S T (by simp[everyF_length]; omega) (by simp[everyF_length]; omega) (bz 1 (by omega)) bw t.toNat hk
       have sW:=hT t.toNat (by omega)
       have hm2:S+T+2≤2^m'*(S+T+2):=Nat.le_mul_of_pos_left _ (Nat.pow_pos (by omega))
       have sU:=Cq.sz_mul (nth (stageF m' (everyF zs 1) (everyF ws 0)) t.toNat) (nth ws t.toNat)
       refine⟨hb4,x4,hx4,hs4,hb5,x5,hx5,hs5,(Num_Mul_spec hn4 hn5 (by omega) (by omega)).mono fun v V7 l7 ⟨r6,hv,hr6⟩=>⟨r6,hv,?_⟩⟩
       obtain⟨hb6,x6,hx6,hs6,hn6⟩:=(h8.le l7).get h0 (by omega)
       refine⟨hb6,x6,hx6,hs6,hb6,x6,hx6,hs6,(Num_Add_spec hn6 hr6 (by omega) (by omega)).mono fun v V8 l8' ⟨r7,hv,hr7⟩=>⟨r7,hv,?_⟩⟩
       refine(Num_Sub_spec (hn6.le l8') (hr6.le l8') (by omega) (by omega)).mono fun v V9 l9' ⟨r8,hv,hr8⟩=>⟨r8,hv,⟨h0,?_⟩,?_,?_⟩
       · omega
       · exact Cells.room hin (by rw[lo]; omega)
       have ek:IntKind.i64.wrap (t+((2^m':Nat):Int))=t+((2^m':Nat):Int):=i64w (by omega) (by omega)
       have ek2:Int.toNat (t+((2^m':Nat):Int))=t.toNat+2^m':=by omega
       have et:IntKind.i64.wrap (t+1)=t+1:=i64w (by omega) (by omega)
       have et2:(t+1).toNat=t.toNat+1:=by omega
       rw[ek,ek2]
       have in9:=hin.le (View.le_trans l7 (View.le_trans l8' l9'))
       have s1:=in9.set (i:=t.toNat) (by rw[lo]; omega) (hr7.le l9')
       have s2:=s1.set (i:=t.toNat+2^m') (by rw[List.length_set,lo]; omega) hr8
       refine⟨⟨by omega,by omega⟩,?_,⟨m',_,_,rfl,rfl,rfl,h8.le (View.le_trans l7 (View.le_trans l8' l9')),h9.le (View.le_trans l7 (View.le_trans l8' l9')),by rw[et]; omega,by rw[et]; omega,?_⟩,by simp only[et,et2]; omega⟩
       · exact Cells.room s1 (by rw[List.length_set,lo]; omega)
       · simp only[et,et2]
         rw[←halves_set hk]
         exact s2
     · simp only[decide_eq_false_iff_not]at hge
       have e:t.toNat=2^m':=by omega
       rw[e]at hin
       have e2:halves (2^m') (2^m') (fun i=>nth (stageF m' (everyF zs 0) (everyF ws 0)) i+nth (stageF m' (everyF zs 1) (everyF ws 0)) i*nth ws i)
        (fun i=>nth (stageF m' (everyF zs 0) (everyF ws 0)) i-nth (stageF m' (everyF zs 1) (everyF ws 0)) i*nth ws i)=stageF (m'+1) zs ws:=by
        have h2:=list_of_nth (stageF (m'+1) zs ws)
        rw[stageF_length]at h2
        rw[←h2]
        unfold halves
        rw[←hp2]
        apply List.map_congr_left
        intro i hi
        have hi:i<2^(m'+1):=by simpa using hi
        rw[stageF,nth_map hi]
        split
        · rfl
        · rw[if_pos (by omega)]
       rw[e2]at hin
       refine⟨⟨by omega,?_⟩,by omega,by simp,by simp,hin⟩
       intro eo
       subst eo
       have:=Cells.length hin
       rw[stageF_length]at this
       simp at this; omega
end Go.Proofs.YtfdaofhjkdabbaaGreat
namespace Go.Proofs.YtfdaofhjkdabbaaGreat
open Go Go.Vc Go.Proofs Go.ChangeShapes Go.RowKit
structure RatTy (P:Program) (t:TypeId):Prop where
 fields:∃f0 f1 f2:Field,P.underlying t=some (.struct #[f0,f1,f2])∧(f0.offset=0∧f1.offset=1∧f2.offset=2) ∧
  (P.underlying f0.type=some (.int .i64)∧P.underlying f1.type=some (.int .i64)∧P.underlying f2.type=some (.int .i64))∧(P.cellsOf f0.type=1∧P.cellsOf f1.type=1∧P.cellsOf f2.type=1)
 cells:P.cellsOf t=3
section
variable {H:Type} {enc:TypeId×Value→H} {P:Program} {w:World} {base:Nat} {spare:Nat→Bool} {held:Bool}
theorem trod_rat {t:TypeId} {fuel:Nat} {cs:List Value} {x:DataW H×List MemPlace} (ht:RatTy P t) (h:DataW.trod enc P w base spare held fuel t cs=some x):∃r:RatV,ratI r∧cs=r.val.cells.toList:=by
 obtain⟨f0,f1,f2,hR,⟨o0,o1,o2⟩,⟨i0,i1,i2⟩,c0,c1,c2⟩:=ht.fields
 obtain⟨xs,n,_,_,hl,hxs,hf⟩:=DataW.trod_struct hR h
 rw[ht.cells]at hl
 match cs,hl with
 | [a,b,c],_ =>
   have g0:=hf 0 f0 rfl
   have g1:=hf 1 f1 rfl
   have g2:=hf 2 f2 rfl
   rw[o0,c0]at g0
   rw[o1,c1]at g1
   rw[o2,c2]at g2
   have hs:xs.length=3:=hxs
   match xs,hs with
   | [y0, y1, y2], _ =>
     obtain⟨n0,e0,_,w0⟩:=DataW.trod_int i0 g0
     obtain⟨n1,e1,_,w1⟩:=DataW.trod_int i1 g1
     obtain⟨n2,e2,_,w2⟩:=DataW.trod_int i2 g2
     simp at e0 e1 e2
     subst e0; subst e1; subst e2
     exact⟨⟨n0,n1,n2⟩,⟨bounds_i64 w0,bounds_i64 w1,bounds_i64 w2⟩,rfl⟩
end
theorem CallV.fits {P:Program} {f:FuncId} {args:Array Value} {r:Value} {V:View} (h:CallV P f args V fun v _=>v=r) {w:World} (hw:V.In w) :
 Calls P f args w fun e w'=>e = .returned r∧Below w.heap.size w w' :=
 (h w hw).mono fun _ _ ⟨_,_,he,_,_,_,hb,hr⟩=>⟨by rw[he,hr],hb⟩
theorem trodAll_below {H:Type} {enc:TypeId×Value→H} {P:Program} (hl:laidOutB P=true) {W W':World} (hb:Below W.heap.size W W') :
 ∀ {ts:List TypeId} {vs:List Value} {ds:List (DataW H)} {ps:List MemPlace},(∀t∈ts,P.readableRec t=true∧t<P.types.size)→(∀p∈ps,p.block<W.heap.size) →
 DataW.TrodAll enc P W 0 (fun _=>true) true ts vs ds ps→DataW.TrodAll enc P W' 0 (fun b=>decide (b<W.heap.size)) true ts vs ds ps
 | [],[],[],_,_,_,h=>h
 | t::ts,v::vs,d::ds,ps,ht,hlt,⟨p,q,h1,h2,e⟩=>by
   subst e
   exact⟨p,q,Below.trod hl (ht t (by simp)).1 (ht t (by simp)).2 h1 hb (fun x hx=>hlt x (by simp[hx])),
    trodAll_below hl hb (fun t' ht'=>ht t' (by simp[ht'])) (fun x hx=>hlt x (by simp[hx])) h2,rfl⟩
 | [],[],_::_,_,_,_,h=>h.elim
 | [],_::_,_,_,_,_,h=>h.elim
 | _::_,[],_,_,_,_,h=>h.elim
 | _::_,_::_,[],_,_,_,h=>h.elim
theorem post_of_read {H:Type} {enc:TypeId×Value→H} {P:Program} {f:Func} {s:ChangeSpec} {apart fresh handsOn:Bool} {W W':World} {args:Array Value} {v:Value} {ds:List (DataW H)} {before:List MemPlace}
 (hl:laidOutB P=true) (ht:∀t∈f.params.toList,P.readableRec t=true∧t<P.types.size)
 (hW:DataW.Whole enc P f.params.toList s.vars apart W args.toList ds [] before) (hA:DataW.TrodAll enc P W 0 (fun _=>true) true f.params.toList args.toList ds before)
 (hres:∀(b:Nat) (sp:Nat→Bool) (hd:Bool),DataW.TrodAll enc P W' b sp hd f.resultTypes.toList (v.resultList f.resultTypes.size) (s.fn H (ds++[])).results [])
 (hargs:(s.fn H (ds++[])).args=ds) (hvars:∀sp:Nat→Bool,DataW.TrodVars enc P W' sp s.vars (s.fn H (ds++[])).vars []) (hb:Below W.heap.size W W'):s.post enc P f apart fresh handsOn false W args v W':=by
 refine⟨ds,[],before,[],before,[],hW,hres _ _ _,?_,hvars _,World.keptBut_mono (fun p hp=>⟨hp,.inr (.inl hp)⟩) (hb.frame (·∈before)),fun h=>Bool.noConfusion h⟩
 rw[hargs]
 exact trodAll_below hl hb ht (fun p hp=>hW.lt p hp) hA
def worldView (w:World):View:=fun b=>match w.heap[b]? with|some (.cells cs _ _)=>some cs|_=>none
theorem worldView_in (w:World):(worldView w).In w:=by
 intro i cs hi
 unfold worldView at hi
 split at hi
 · rename_i cs' T fr hw
   simp at hi; subst hi
   exact⟨T,fr,hw⟩
 · simp at hi
theorem worldView_load {w:World} {p:Addr} {v:Value} (h:w.cell? p=some v):(worldView w).load (some p)=some v:=by
 unfold World.cell? at h
 unfold View.load worldView
 split at h
 · rename_i c T fr hw
   simp only[hw]
   split at h
   · simp at h
   · rename_i hs
     simp only[hs]
     simpa using h
 · simp at h
section
variable {H:Type} {enc:TypeId×Value→H} {P:Program} {w:World} {base:Nat} {spare:Nat→Bool} {held:Bool}
theorem trod_list {α:Type} {sz:Nat} {t e:TypeId} (ht:P.underlying t=some (.slice e)) (hc:P.cellsOf e=sz) (ok:α→Prop) (E:View→List Value→α→Prop)
 (he:∀ {fuel:Nat} {cs:List Value} {x:DataW H×List MemPlace},DataW.trod enc P w base spare held fuel e cs=some x→∃z,ok z∧E (worldView w) cs z)
 {fuel:Nat} {cs:List Value} {x:DataW H×List MemPlace} (h:DataW.trod enc P w base spare held fuel t cs=some x) :
 ∃(s:Sl) (zs:List α),cs=[s.v]∧ListAt sz E (worldView w) s zs∧zs.length≤maxLen∧∀z∈zs,ok z:=by
 rcases Go.Deep.open_slice ht h with⟨h1,_⟩|⟨a,l0,c0,m,n,D,Pl,h1,_,hl,hm,hmm,_,hx⟩
 · subst h1
   exact⟨Sl.mk none 0 0,[],rfl,ListAt.nil,Nat.zero_le _,by intro r hr; simp at hr⟩
 · subst h1
   have hlm:l0≤m:=by rw[hmm]; split<;>omega
   have key:∀k,k≤l0→∃(rs:List α) (o:List Value),rs.length=k∧(∀r∈rs,ok r)∧Cells sz E (worldView w) o rs∧(worldView w).has (some a) o:=by
    intro k
    induction k with
    | zero=>intro _; exact⟨[],[],rfl,by intro r hr; simp at hr,rfl,by intro j v hj; simp at hj⟩
    | succ k ih =>
      intro hk
      obtain⟨rs,o,hrl,hri,hcs,ho⟩:=ih (by omega)
      obtain⟨cs',g1,g2⟩:=hx k (by omega)
      obtain⟨r,hr,er⟩:=he g2
      rw[hc]at g1
      obtain⟨_,hcl,hcell⟩:=World.cells?_some g1
      have hol:=hcs.length
      refine⟨rs++[r],o++cs',by simp[hrl],?_,hcs.append (Cells.one hcl er),?_⟩
      · intro x hx
        rcases List.mem_append.1 hx with h|h
        · exact hri x h
        · simp at h; subst h; exact hr
      · intro j v hj
        by_cases hjo:j<o.length
        · rw[List.getElem?_append_left hjo]at hj
          exact ho j v hj
        · rw[List.getElem?_append_right (by omega)]at hj
          have hj3:j-o.length<sz:=by
           rcases Nat.lt_or_ge (j-o.length) cs'.length with h|h
           · omega
           · rw[List.getElem?_eq_none h]at hj; simp at hj
          have hcj:=hcell (j-o.length) hj3
          rw[hj,addr_add2]at hcj
          have e:k*sz+(j-o.length)=j:=by rw[hol,hrl]; rw[hol,hrl]at hjo; omega
          rw[e]at hcj
          exact worldView_load hcj
   obtain⟨rs,o,hrl,hri,hcs,ho⟩:=key l0 (Nat.le_refl _)
   exact⟨Sl.mk (some a) l0 c0,rs,rfl,⟨hrl.symm,hl,fun _=>rfl,o,ho,hcs⟩,by omega,hri⟩
theorem one_of_cells {v x:Value} (h:v.cells.toList=[x]) (hv:∃a l c,v = .slice a l c):v=x:=by
 obtain⟨a,l,c,rfl⟩:=hv
 simpa [Value.cells]using h
theorem open_ratsW {t e:TypeId} {v:Value} {d:DataW H} {ps:List MemPlace} (ht:P.underlying t=some (.slice e)) (he:RatTy P e) (hv:∃a l c,v = .slice a l c) (h:DataW.Trod enc P w base spare held t v d ps) :
 ∃(s:Sl) (rs:List RatV),v=s.v∧RatsAt (worldView w) s rs∧rs.length≤maxLen∧∀r∈rs,ratI r:=by
 obtain⟨fuel,h⟩:=h
 obtain⟨s,zs,e1,h1,h2,h3⟩:=trod_list ht he.cells ratI ratC (fun g=>trod_rat he g) h
 exact⟨s,zs,one_of_cells e1 hv,h1,h2,h3⟩
theorem open_rowsW {t t2 e:TypeId} {v:Value} {d:DataW H} {ps:List MemPlace} (ht:P.underlying t=some (.slice t2)) (ht2:P.underlying t2=some (.slice e)) (hc:P.cellsOf t2=1) (he:RatTy P e) (hv:∃a l c,v = .slice a l c)
 (h:DataW.Trod enc P w base spare held t v d ps) :
 ∃(s:Sl) (rows:List (List RatV)),v=s.v∧RowsV 3 ratC (worldView w) s rows∧rows.length≤maxLen∧∀row∈rows,row.length≤maxLen∧∀r∈row,ratI r:=by
 obtain⟨fuel,h⟩:=h
 obtain⟨s,zs,e1,h1,h2,h3⟩:=trod_list (α:=List RatV) ht hc (fun row=>row.length≤maxLen∧∀r∈row,ratI r) (fun V x row=>∃s:Sl,x=[s.v]∧ListAt 3 ratC V s row) (fun g=>by
  obtain⟨s,zs,e1,h1,h2,h3⟩:=trod_list ht2 he.cells ratI ratC (fun g=>trod_rat he g) g
  exact⟨zs,⟨h2,h3⟩,s,e1,h1⟩) h
 exact⟨s,zs,one_of_cells e1 hv,h1,h2,h3⟩
end
end Go.Proofs.YtfdaofhjkdabbaaGreat
namespace Go.Proofs.YtfdaofhjkdabbaaGreat
open Go Go.Vc Go.Proofs
theorem oneN {V:View} {x:List Value} {z:Cq} (h:numC V x z):∀v∈x,Value.oneCell' v=true:=by
 obtain⟨n,e,_⟩:=h
 subst e
 intro v hv
 rw[num_cells]at hv
 simp only[List.mem_cons,List.not_mem_nil,or_false]at hv
 rcases hv with rfl|rfl|rfl|rfl|rfl<;>rfl
theorem one_N {V:View} {o:List Value} {row:List Cq} (h:Cells 5 numC V o row):∀v∈o,Value.oneCell' v=true:=by
 induction row generalizing o with
 | nil=>rw[show o=[]from h]; simp
 | cons z zs ih =>
   obtain⟨x,o',e,hx,hp,ht⟩:=h
   subst e
   intro v hv
   rw[List.mem_append]at hv
   rcases hv with hv|hv
   · exact oneN hp v hv
   · exact ih ht v hv
theorem Clone_num_Num_spec {m V:View} {s:Sl} {row:List Cq} {o:List Value} (hC:Cells 5 numC V o row) (ho:has2 m V s.a o) (hl:s.len=row.length) (ha:s.a=none→row=[]) (hb:row.length≤2^30) :
 CallR Tryz.prog n_slices_Clone___num_Num_num_Num_ #[s.v] m V fun v m' V'=>∃(r:Sl) (b:Nat),v=r.v∧RowR 5 numC m' V' r b row∧(row≠[]→m b=none)∧(∀i,i≠b∨row=[]→m' i=m i):=by
 refine slices_Clone___num_Num_num_Num__vc m s V _ ⟨trivial,fun h => ?_,fun h b1 V1 l1 hf hb1 => ?_⟩
 · have e:=ha (by simpa using h)
   exact⟨⟨none,0,0⟩,0,rfl,⟨by rw[e]; rfl,Nat.le_refl _,fun _=>rfl,fun h=>absurd e h⟩,fun h=>absurd e h,fun _ _=>rfl⟩
 · have hol:=hC.length
   refine⟨[],o,⟨Nat.le_refl _,fun h=>by simp at h⟩,.inl (by intro j v hj; simp at hj),by simp,has2_le l1 ho,by rw[hol,hl],one_N hC,by unfold maxLen; omega,by omega,fun h1 h2=>by omega,fun a1 c1 m1 ha1 => ?_⟩
   have hC1:Cells 5 numC V1 o row:=hC.imp (numC.le l1)
   obtain⟨b,hr,hb2,hm,hm2⟩:=RowR.clone hC1 rfl hl ha1
   exact⟨_,b,rfl,hr,hb2,fun i hi=>by
    rcases hi with hi|hi
    · exact hm i hi
    · rw[hm2 hi]⟩
theorem CloneV_num_Num {V:View} {s:Sl} {row:List Cq} (h:ListAt 5 numC V s row) (hb:row.length≤2^30) :
 CallV Tryz.prog n_slices_Clone___num_Num_num_Num_ #[s.v] V fun v V'=>∃r:Sl,v=r.v∧ListAt 5 numC V' r row:=by
 obtain⟨hl,hc,hn,o,ho,hC⟩:=h
 refine CallR.known (Clone_num_Num_spec (m:=fun _=>none) hC (.inr ho) hl (fun e => ?_) hb) fun v m V' V2 l e ap ⟨r,b,hv,hr,_⟩=>⟨r,hv,?_⟩
 · rcases Classical.em (row=[])with g|g
   · exact g
   · have:=hn g; rw[e]at this; simp at this
 · subst e
   exact hr.known (numC.le (View.le_or ap)) (fun b cs g=>View.or_left g)
theorem NewGrid_num_Num_spec {V:View} {p:Sl} {rows:List (List Cq)} (h:RowsV 5 numC V p rows) :
 CallV Tryz.prog n_transform_NewGrid_num_Num_ #[p.v] V fun v V'=>∃g:GridV,v = .tuple #[g.val,.int .i64 (gridE rows)]∧RowsV 5 numC V' g.rows (gridR rows):=by
 have hl:p.len=rows.length:=h.len
 have bad:∀V':View,gridOkB rows=false→∃g:GridV,Value.tuple #[(GridV.mk (Sl.mk none 0 0)).val,.int .i64 4] = .tuple #[g.val,.int .i64 (gridE rows)]∧RowsV 5 numC V' g.rows (gridR rows):=fun V' e=>by
  refine⟨⟨⟨none,0,0⟩⟩,?_,?_⟩
  · unfold gridE; rw[e]; rfl
  · unfold gridR; rw[e]; exact ListAt.nil
 refine transform_NewGrid_num_Num__vc p V _ (fun _ _ _=>1≤rows.length∧rows.length≤64)
  (fun _ x V'=>∃(t:Nat) (l:List Value),x.t18=t∧t≤rows.length∧LstOk 1 x.o4_0l x.o4_0c x.o45 l∧x.o4_0l=t∧Cells 1 (fun V x row=>∃s:Sl,x=[s.v]∧ListAt 5 numC V s row) V' l (rows.take t)∧∀row∈rows.take t,growOk (gcols rows) row=true)
  (fun _ x _=>rows.length-x.t18.toNat) ?_
 rw[hl]
 refine⟨⟨fun c=>bad V ?_,fun c=>⟨fun c'=>bad V ?_,fun c' => ?_⟩⟩,?_⟩
 · unfold gridOkB
   have c:=of_decide_eq_true c
   have:decide (1≤rows.length)=false:=decide_eq_false (by omega)
   rw[this]; rfl
 · unfold gridOkB
   have c':=of_decide_eq_true c'
   have:decide (rows.length≤64)=false:=decide_eq_false (by omega)
   rw[this,Bool.false_and,Bool.and_false]
 · have c:=of_decide_eq_false c
   have c':=of_decide_eq_false c'
   omega
 rintro⟨o2⟩ V1 l1 ⟨n1,n2⟩
 refine⟨⟨0,[],rfl,by omega,LstOk.nil,rfl,rfl,by simp⟩,?_⟩
 rintro⟨t18,o2',k,c,o⟩ V2 l2 ⟨t,l,et,ht,hL,ek,hC,hall⟩
 dsimp only at et hL ek hC ⊢
 subst et; subst ek
 have L2:=View.le_trans l1 l2
 refine⟨fun hlt => ?_,fun hge => ?_⟩
 · have hk:k<rows.length:=by simp at hlt; omega
   have ek:rows[k]?=some rows[k]:=List.getElem?_eq_getElem hk
   have hmem:=List.getElem_mem hk
   obtain⟨g,s,h1,h2⟩:=(RowsV.le numC.le L2 h).row (t:=(k:Int)) (by omega) (row:=rows[k]) (by rw[Int.toNat_natCast]; exact ek)
   have hs:s.len=rows[k].length:=h2.len
   rw[hl]at g
   have tk:rows.take (k+1)=rows.take k++[rows[k]]:=by rw[List.take_add_one,ek]; rfl
   generalize rows[k]=row at *
   have no:growOk (gcols rows) row=false→gridOkB rows=false:=fun e=>by
    unfold gridOkB
    rw[List.all_eq_false.2 ⟨row,hmem,by rw[e]; simp⟩,Bool.and_false,Bool.and_false]
   refine⟨g,s,h1,fun c1=>bad V2 (no ?_),fun c1=>⟨fun c2=>bad V2 (no ?_),fun c2 => ?_⟩⟩
   · unfold growOk
     have c1:=of_decide_eq_true c1
     have:decide (1≤row.length)=false:=decide_eq_false (by omega)
     rw[this]; rfl
   · unfold growOk
     have c2:=of_decide_eq_true c2
     have:decide (row.length≤64)=false:=decide_eq_false (by omega)
     rw[this,Bool.false_and,Bool.and_false]
   obtain⟨row0,e0,e1⟩:=head_get (rows:=rows) (by omega)
   obtain⟨g0,s0,h3,h4⟩:=(RowsV.le numC.le L2 h).row (t:=(0:Int)) (by omega) (row:=row0) e0
   have hs0:s0.len=gcols rows:=by rw[←e1]; exact h4.len
   rw[hl]at g0
   refine⟨g0,s0,h3,fun c3=>bad V2 (no ?_),fun c3 => ?_⟩
   · unfold growOk
     have:decide (row.length=gcols rows)=false:=decide_eq_false (fun e=>by rw[hs,hs0,e]at c3; simp at c3)
     rw[this,Bool.and_false,Bool.and_false]
   have ok:growOk (gcols rows) row=true:=by
    have c1:=of_decide_eq_false c1
    have c2:=of_decide_eq_false c2
    have c3:row.length=gcols rows:=by rw[hs,hs0]at c3; simp at c3; omega
    unfold growOk
    rw[decide_eq_true (show 1≤row.length by omega),decide_eq_true (show row.length≤64 by omega),decide_eq_true c3]; rfl
   refine(CloneV_num_Num h2 (by have:=of_decide_eq_false c2; omega)).mono fun v V3 l3 ⟨r1,hv,hr⟩=>⟨r1,hv,fun b1 V4 l4 _ hb1 => ?_⟩
   have hnew:V4.has (some (Addr.mk b1 0 none)) [r1.v]:=rhas_block (cs:=[r1.v]) (j:=0) hb1 (fun i v hv=>by rw[Nat.zero_add]; exact hv) rfl
   refine⟨l,_,hL,hnew,rfl,by intro v hv; simp at hv; subst hv; rfl,by unfold maxLen; omega,by omega,fun c1 l3' hl3 => ?_⟩
   rw[i64w (by omega) (by omega)]
   have L24:=View.le_trans l3 l4
   refine⟨⟨k+1,_,by omega,by omega,hl3,rfl,?_,fun row' hr' => ?_⟩,by omega⟩
   · rw[tk]
     exact(hC.imp fun _ _ ⟨s,e,hs⟩=>⟨s,e,ListAt.le (numC.le L24) L24 hs⟩).append (Cells.one rfl ⟨_,rfl,ListAt.le (numC.le l4) l4 hr⟩)
   · rw[tk]at hr'
     rcases List.mem_append.1 hr' with hr'|hr'
     · exact hall row' hr'
     · rw[show row'=row by simpa using hr']; exact ok
 · have e:k=rows.length:=by simp at hge; omega
   subst e
   rw[List.take_length]at hC hall
   intro b2 V5 l5 hb2
   have ok:gridOkB rows=true:=by
    unfold gridOkB
    simp only[Bool.and_eq_true,decide_eq_true_eq,List.all_eq_true]
    exact⟨n1,n2,hall⟩
   refine⟨⟨⟨lstA b2 c,rows.length,c⟩⟩,by unfold gridE; rw[ok]; rfl,?_⟩
   unfold gridR; rw[if_pos ok]
   exact ListAt.of_lst hL hb2 (hC.imp fun _ _ ⟨s,e,hs⟩=>⟨s,e,ListAt.le (numC.le l5) l5 hs⟩) rfl
theorem Size_num_Num_spec {V:View} {g:GridV} {rows:List (List Cq)} (h:RowsV 5 numC V g.rows rows) :
 CallV Tryz.prog n__transform_Grid_num_Num___Size #[g.val] V fun v _=>v = .tuple #[.int .i64 (rows.length:Int),.int .i64 (gcols rows:Int)]:=by
 have hl:g.rows.len=rows.length:=h.len
 refine m_transform_Grid_num_Num___Size_vc g V _ ⟨fun c => ?_,fun c => ?_⟩
 · have e:rows=[]:=List.length_eq_zero_iff.1 (by simp at c; omega)
   subst e; rfl
 · obtain⟨row0,e0,e1⟩:=head_get (rows:=rows) (by simp at c; omega)
   obtain⟨g0,s0,h3,h4⟩:=h.row (t:=(0:Int)) (by omega) (row:=row0) e0
   refine⟨g0,s0,h3,?_⟩
   rw[h4.len,e1,hl]
theorem Row_num_Num_spec {m V:View} {g:GridV} {rows:List (List Cq)} {i:Int} (h:RowsV 5 numC V g.rows rows) (hb:∀row,row∈rows→row.length≤2^30) :
 CallR Tryz.prog n__transform_Grid_num_Num___Row #[g.val,.int .i64 i] m V fun v m' V'=>∃(r:Sl) (e:Int),v = .tuple #[r.v,.int .i64 e] ∧
  (0≤i∧i<rows.length→e=0∧∃b:Nat,RowR 5 numC m' V' r b (rows.getD i.toNat [])∧(rows.getD i.toNat []≠[]→m b=none)∧(∀k,k≠b∨rows.getD i.toNat []=[]→m' k=m k)) ∧
  (¬(0≤i∧i<rows.length)→e=1∧r=⟨none,0,0⟩∧m'=m):=by
 have hl:g.rows.len=rows.length:=h.len
 refine m_transform_Grid_num_Num___Row_vc m g i V _ ⟨fun c => ?_,fun c=>⟨fun c' => ?_,fun c' => ?_⟩⟩
 · have c:=of_decide_eq_true c
   exact⟨_,_,rfl,fun k=>absurd k.1 (by omega),fun _=>⟨rfl,rfl,rfl⟩⟩
 · have c':=of_decide_eq_true c'
   exact⟨_,_,rfl,fun k=>absurd k.2 (by omega),fun _=>⟨rfl,rfl,rfl⟩⟩
 · have c:=of_decide_eq_false c
   have c':=of_decide_eq_false c'
   have hi:i.toNat<rows.length:=by omega
   have ek:rows[i.toNat]?=some (rows.getD i.toNat []):=by simp[List.getD,hi]
   obtain⟨g1,s,h1,h2⟩:=h.row (t:=i) (by omega) ek
   obtain⟨sl,_,hn,o,ho,hC⟩:=h2
   refine⟨g1,s,.inr h1,(Clone_num_Num_spec hC (.inr ho) sl (fun e => ?_) (hb _ (List.mem_of_getElem? ek))).mono fun v m1 V1 l1 _ ⟨r,b,hv,hr,k1,k2⟩=>⟨r,hv,r,0,rfl,fun _=>⟨rfl,b,hr,k1,k2⟩,fun k=>absurd ⟨by omega,by omega⟩ k⟩⟩
   rcases Classical.em (rows.getD i.toNat []=[])with g|g
   · exact g
   · have:=hn g; rw[e]at this; simp at this
theorem RowV_num_Num {V:View} {g:GridV} {rows:List (List Cq)} {i:Int} (h:RowsV 5 numC V g.rows rows) (hb:∀row,row∈rows→row.length≤2^30) :
 CallV Tryz.prog n__transform_Grid_num_Num___Row #[g.val,.int .i64 i] V fun v V'=>∃(r:Sl) (e:Int),v = .tuple #[r.v,.int .i64 e] ∧
  (0≤i∧i<rows.length→e=0∧ListAt 5 numC V' r (rows.getD i.toNat []))∧(¬(0≤i∧i<rows.length)→e=1∧r=⟨none,0,0⟩):=by
 refine CallR.known (Row_num_Num_spec h hb) fun v m V' V2 l e ap ⟨r,e',hv,h1,h2⟩=>⟨r,e',hv,fun k => ?_,fun k=>⟨(h2 k).1,(h2 k).2.1⟩⟩
 obtain⟨e0,b,hr,_⟩:=h1 k
 subst e
 exact⟨e0,hr.known (numC.le (View.le_or ap)) (fun b cs g=>View.or_left g)⟩
theorem Turned_num_Num_spec {V:View} {g:GridV} {rows:List (List Cq)} (h:RowsV 5 numC V g.rows rows) (hr:Rect rows) (hn:rows.length≤2^20) (hw:gcols rows≤2^20) (d:Cq) :
 CallV Tryz.prog n__transform_Grid_num_Num___Turned #[g.val] V fun v V'=>∃r:GridV,v=r.val∧RowsV 5 numC V' r.rows (turnG d rows):=by
 have hl:g.rows.len=rows.length:=h.len
 let n:=rows.length
 let w:=gcols rows
 let A:Nat→Nat→Cq:=fun j i=>atG d rows i j
 refine m_transform_Grid_num_Num___Turned_vc g V _
  (fun _ x V'=>∃k:Nat,x.t18=k∧k≤gcols rows∧x.o15.length=gcols rows∧RowsR 5 numC x.o0 V' x.o15 (gcols rows) (fun i=>if i<k then rowL rows.length (A i)else [])) (fun _ x _=>gcols rows-x.t18.toNat)
  (fun c x V'=>∃k j:Nat,c.t18=k∧k<gcols rows∧x.t24=j∧j≤rows.length∧x.o15.length=gcols rows∧RowsR 5 numC x.o0 V' x.o15 (gcols rows) (fun i=>if i<k then rowL rows.length (A i)else if i=k then rowL j (A k)else [])) (fun _ x _=>rows.length-x.t24.toNat) ?_
 refine(Size_num_Num_spec h).mono fun v V1 l1 hv=>⟨_,_,hv,?_⟩
 rw[Int.toNat_natCast,hl]
 refine⟨⟨by omega,by omega,by omega,by omega⟩,⟨0,rfl,by omega,by simp,?_⟩,?_⟩
 · rw[flat1]; exact(RowsR.nils V1 (gcols rows)).congr fun i _=>by rw[if_neg (by omega)]
 rintro⟨t18,o0,o2,o15⟩ V3 l3 ⟨k,ek,hk,hol,hR⟩
 dsimp only at ek hol hR ⊢
 subst ek
 refine⟨fun hlt=>⟨⟨k,0,rfl,by simp at hlt; omega,rfl,by omega,hol,hR.congr fun i hi => ?_⟩,?_⟩,fun hge => ?_⟩
 · by_cases e:i<k
   · rw[if_pos e,if_pos e]
   · rw[if_neg e,if_neg e]
     split<;>rfl
 · rintro⟨t24,o0',o15'⟩ V4 l4 ⟨k',j,ek,hkw,ej,hj,hol',hR'⟩
   dsimp only at ek ej hol' hR' ⊢
   obtain rfl:k=k':=by omega
   subst ej
   refine⟨fun hlt2 => ?_,fun hge2 => ?_⟩
   · have hjn:j<rows.length:=by simp at hlt2; omega
     obtain⟨s3,e3,r1,r2,r3,⟨o3,r4,r5,r6⟩,r7⟩:=hR'.row (i:=k) hkw
     rw[if_neg (by omega),if_pos rfl]at r1 r6
     rw[rowL_length]at r1
     have ejr:=getD_get hjn []
     obtain⟨g1,s,g2,g3⟩:=(RowsV.le numC.le (View.le_trans l1 (View.le_trans l3 l4)) h).row (t:=(j:Int)) (by omega) (row:=rows.getD j []) (by rw[Int.toNat_natCast]; exact ejr)
     rw[hl]at g1
     have hkr:k<(rows.getD j []).length:=by rw[gcols_get hr ejr]; exact hkw
     obtain⟨d1,x,hx,hxl,hh,hs⟩:=ListAt.get g3 (t:=(k:Int)) (by omega) (z:=A k j) (by rw[Int.toNat_natCast]; exact getD_get hkr d)
     obtain⟨y,ey⟩:∃y:NumV,x=y.val.cells.toList:=by obtain⟨y,e,_⟩:=hx; exact⟨_,e⟩
     subst ey
     refine⟨g1,s,.inr g2,⟨by omega,by omega⟩,s3,by rw[Int.toNat_natCast,Nat.mul_one,Nat.zero_add]; exact e3,d1,y,.inr hh,hs,fun b2 V6 l6 _ hb2 => ?_⟩
     have hnew:V6.has (some (Addr.mk b2 0 none)) y.val.cells.toList:=rhas_block (cs:=y.val.cells.toList) (j:=0) hb2 (fun i v hv=>by rw[Nat.zero_add]; exact hv) rfl
     have hrc:numC V6 y.val.cells.toList (A k j):=numC.le l6 _ _ hx
     refine⟨o3,_,⟨r2,r3⟩,has2_le l6 r4,r5,.inr hnew,rfl,oneN hrc,by unfold maxLen; omega,by omega,fun _ h2=>r7 1 (by omega) h2,fun a1 c1 m1 ha=>⟨⟨by omega,by omega⟩,by rw[hol',Int.toNat_natCast]; omega,?_⟩⟩
     have:=(hR'.le numC.le l6).app (i:=k) hkw e3 (z:=A k j) rfl hrc (o':=o3) (by rw[if_neg (by omega),if_pos rfl]; exact r6.imp (numC.le l6)) ha
     rw[i64w (by omega) (by omega)]
     refine⟨⟨k,j+1,rfl,hkw,by omega,by omega,by simp[hol'],?_⟩,by omega⟩
     have e1:(0+Int.toNat (k:Int)*1)=k:=by omega
     rw[e1]
     refine this.congr fun i hi => ?_
     by_cases e:i=k
     · subst e
       simp only[if_true,Nat.lt_irrefl,if_false]
       exact rowL_push _ _
     · simp only[if_neg e]
   · have e:j=rows.length:=by simp at hge2; omega
     subst e
     rw[i64w (by omega) (by omega)]
     refine⟨⟨k+1,by omega,by omega,hol',hR'.congr fun i hi => ?_⟩,by omega⟩
     by_cases e:i<k
     · rw[if_pos e,if_pos (by omega)]
     · rw[if_neg e]
       by_cases e2:i=k
       · subst e2; rw[if_pos rfl,if_pos (by omega)]
       · rw[if_neg e2,if_neg (by omega)]
 · have e:k=gcols rows:=by simp at hge; omega
   subst e
   refine fun b3 hb3 _=>⟨by decide,fun V5 l5 hm5=>⟨_,rfl,?_⟩⟩
   have hR2:RowsR 5 numC o0 V3 o15 (gcols rows) (fun i=>rowL rows.length (A i)):=hR.congr fun i hi=>by rw[if_pos hi]
   exact(hR2.mat hol hb3).known (numC.le l5) hm5
theorem fd32 (z:Nat):Int.fdiv (z:Int) (2^(min (Int.toNat 32) (IntKind.u64.bits)))=((z / 4294967296:Nat):Int):=by
 have e2:(2:Int)^(min (Int.toNat 32) (IntKind.u64.bits))=4294967296:=by decide
 rw[e2,Int.fdiv_eq_ediv_of_nonneg _ (by omega)]; omega
theorem fd63 (z:Nat):Int.fdiv (z:Int) (2^(min (Int.toNat 63) (IntKind.u64.bits)))=((z / 9223372036854775808:Nat):Int):=by
 have e2:(2:Int)^(min (Int.toNat 63) (IntKind.u64.bits))=9223372036854775808:=by decide
 rw[e2,Int.fdiv_eq_ediv_of_nonneg _ (by omega)]; omega
theorem u32n (z:Nat):IntKind.u32.wrap (z:Int)=((z%4294967296:Nat):Int):=by rw[u32m]; omega
theorem u64n {z:Nat} (h:z<18446744073709551616):IntKind.u64.wrap (z:Int)=(z:Int):=u64w (by omega) (by omega)
theorem addr_same (c:Prop) [Decidable c] (a:Option Addr):(if c then a else Option.map (fun q=>Addr.add q (Int.toNat 0*1)) a)=a:=by
 have e:(fun q:Addr=>Addr.add q (Int.toNat 0*1))=id:=by funext q; simp[Addr.add]
 rw[e]; simp
theorem ref1_trim_spec {V:View} {s:Sl} {l:List Nat} (h:Words V s l) (hs:l.length≤2^50) :
 CallV Tryz.prog n_ref1_trim #[s.v] V fun v V'=>∃r:Sl,v=r.v∧NatAt V' r (wval l):=by
 have hlen:=h.len
 refine ref1_trim_vc s V _ (fun _ x _=>0≤x.t3∧x.t3≤s.len∧∀d∈l.drop x.t3.toNat,d=0) (fun _ x _=>x.t3.toNat) ⟨⟨Int.natCast_nonneg _,Int.le_refl _,?_⟩,?_⟩
 · intro d hd
   simp only[Int.toNat_natCast,hlen,List.drop_length]at hd
   simp at hd
 rintro⟨t⟩ V1 hle ⟨h0,h1,h2⟩
 simp only at h0 h1 h2 ⊢
 have hcap:=h.cap
 have out:t=0∨l.getD (t.toNat-1) 0≠0→NatAt V1 (Sl.mk (if s.cap=Int.toNat 0 then s.a else Option.map (fun q=>Addr.add q (Int.toNat 0*1)) s.a) (Int.toNat t-Int.toNat 0) (s.cap-Int.toNat 0)) (wval l):=by
  intro hz
  have hw:wval l=wval (l.take t.toNat):=by
   rw[wval_drop l t.toNat,wval_zero_of h2]; omega
  rw[hw,addr_same]
  refine Words.nat ⟨?_,?_,?_,h.wb.take _⟩ ?_
  · intro i d hi
    have hi':i<t.toNat:=by
     rcases Nat.lt_or_ge i t.toNat with h|h
     · exact h
     · rw[List.getElem?_eq_none (by simp; omega)]at hi; simp at hi
    rw[List.getElem?_take_of_lt hi']at hi
    exact View.load_le hle (h.load i d hi)
  · simp; omega
  · simp only[Int.toNat_zero]; omega
  · intro d hd
    rcases hz with rfl|hz
    · simp at hd
    · have h3:t.toNat≠0:=by
        intro e; rw[e]at hd; simp at hd
      rw[List.getLast?_eq_getElem?]at hd
      have h4:(l.take t.toNat).length=t.toNat:=by simp; omega
      rw[h4,List.getElem?_take_of_lt (by omega)]at hd
      simp only[List.getD,hd,Option.getD_some]at hz
      exact hz
 refine⟨fun hp => ?_,fun hp=>⟨by simp,fun _=>⟨⟨by omega,by omega,by omega⟩,_,rfl,out (.inl ?_)⟩⟩⟩
 · simp only[decide_eq_true_eq]at hp
   rw[i64w (by omega) (by omega)]
   refine⟨⟨by omega,by omega,h.isSome (by omega)⟩,_,(h.le hle).get (by omega) (by omega),fun hz => ?_,fun hz=>⟨⟨by omega,by omega,by omega⟩,_,rfl,out (.inr ?_)⟩⟩
   · simp only[beq_iff_eq]at hz
     refine⟨⟨by omega,by omega,fun d hd => ?_⟩,by omega⟩
     have hlt:(t-1).toNat<l.length:=by omega
     rw[List.drop_eq_getElem_cons hlt]at hd
     rcases List.mem_cons.1 hd with rfl|hd
     · simp only[List.getD,List.getElem?_eq_getElem hlt,Option.getD_some]at hz; omega
     · exact h2 d (by rw[show(t-1).toNat+1=t.toNat by omega]at hd; exact hd)
   · simp only[beq_eq_false_iff_ne,ne_eq]at hz
     rw[show t.toNat-1=(t-1).toNat by omega]
     intro e; rw[e]at hz; exact hz rfl
 · simp only[decide_eq_false_iff_not]at hp; omega
theorem ref1_NatOf_spec {V:View} {n:Int} (h0:0≤n) (h1:n≤18446744073709551615) :
 CallV Tryz.prog n_ref1_NatOf #[.int .u64 n] V fun v V'=>∃r:Sl,v=r.v∧NatAt V' r n.toNat:=by
 refine ref1_NatOf_vc n V _ fun b V1 hle _ hb => ?_
 obtain⟨m,rfl⟩:∃m:Nat,n=m:=⟨n.toNat,by omega⟩
 rw[fd32,u32n,u32n,Nat.mod_eq_of_lt (show m / 4294967296<4294967296 by omega)]at hb
 have hw:Words V1 (Sl.mk (some (Addr.mk b 0 none)) 2 2) [m%4294967296,m / 4294967296] :=
  Words.of_block (by rw[hb]; rfl) rfl (by omega) (by intro d hd; simp at hd; omega)
 refine(ref1_trim_spec hw (by simp)).mono fun v V' _ ⟨r,hv,hr⟩=>⟨r,hv,_,rfl,?_⟩
 have:wval [m%4294967296,m / 4294967296]=(m:Int).toNat:=by simp[wval]; omega
 rw[this]at hr; exact hr
theorem ref1_NatCmp_spec {V:View} {s t:Sl} {a b:Nat} (hs:NatAt V s a) (ht:NatAt V t b) (hb:wn a≤2^50) :
 CallV Tryz.prog n_ref1_NatCmp #[s.v,t.v] V fun v _=>v = .int .i64 (if a<b then -1 else if a=b then 0 else 1):=by
 have h1:=hs.len
 have h2:=ht.len
 simp only[wn]at hb
 refine ref1_NatCmp_vc s t V _ (fun _ x _ => -1≤x.t5∧x.t5<s.len∧(dig a).drop (x.t5+1).toNat=(dig b).drop (x.t5+1).toNat) (fun _ x _=>(x.t5+1).toNat) ⟨fun hne=>⟨fun hlt => ?_,fun hlt => ?_⟩,fun he=>⟨?_,?_⟩⟩
 · have:=dig_len_lt (a:=a) (b:=b) (by simpa [h1,h2]using hlt)
   simp[this]
 · have hne:¬(s.len:Int)=t.len:=by simpa using hne
   have hlt:¬s.len<t.len:=by simpa using hlt
   have:=dig_len_lt (a:=b) (b:=a) (by omega)
   rw[if_neg (by omega),if_neg (by omega)]
 · have he:(s.len:Int)=t.len:=by simpa using he
   rw[i64w (by omega) (by omega)]
   refine⟨?_,?_,?_⟩
   · show(-1:Int)≤s.len-1; omega
   · show(s.len:Int)-1<s.len; omega
   · rw[List.drop_eq_nil_of_le,List.drop_eq_nil_of_le]<;>simp<;>omega
 · have he:(s.len:Int)=t.len:=by simpa using he
   rintro⟨i⟩ V1 hle ⟨i0,i1,hd⟩
   simp only at i0 i1 hd ⊢
   refine⟨fun hp => ?_,fun hp => ?_⟩
   · simp only[ge_iff_le,decide_eq_true_eq]at hp
     refine⟨⟨by omega,by omega,hs.isSome (by omega)⟩,_,(hs.le hle).get (by omega) (by omega),⟨by omega,by omega,ht.isSome (by omega)⟩,_,(ht.le hle).get (by omega) (by omega),fun hne =>
      ⟨⟨by omega,by omega,hs.isSome (by omega)⟩,_,(hs.le hle).get (by omega) (by omega),⟨by omega,by omega,ht.isSome (by omega)⟩,_,(ht.le hle).get (by omega) (by omega),fun hlt => ?_,fun hge => ?_⟩,fun heq => ?_⟩
     · have hlt:(dig a).getD i.toNat 0<(dig b).getD i.toNat 0:=by simpa using hlt
       have:=wval_lt_of (WB_dig a) (by omega) (i:=i.toNat) (by omega) (by rw[show i.toNat+1=(i+1).toNat by omega]; exact hd) hlt
       rw[wval_dig,wval_dig]at this
       simp[this]
     · have hne:¬(dig a).getD i.toNat 0=(dig b).getD i.toNat 0:=by
         intro e; rw[e]at hne; simp at hne
       have hge:¬(dig a).getD i.toNat 0<(dig b).getD i.toNat 0:=by simpa using hge
       have:=wval_lt_of (WB_dig b) (by omega) (i:=i.toNat) (by omega) (by rw[show i.toNat+1=(i+1).toNat by omega]; exact hd.symm) (by omega:(dig b).getD i.toNat 0<(dig a).getD i.toNat 0)
       rw[wval_dig,wval_dig]at this
       rw[if_neg (by omega),if_neg (by omega)]
     · have heq:(((dig a).getD i.toNat 0:Nat):Int)=(((dig b).getD i.toNat 0:Nat):Int):=by simpa using heq
       rw[i64w (by omega) (by omega)]
       refine⟨⟨by show(-1:Int)≤i-1; omega,by show i-1<(s.len:Int); omega,?_⟩,by show(i-1+1).toNat<(i+1).toNat; omega⟩
       have e:(i-1+1).toNat=i.toNat:=by omega
       show(dig a).drop (i-1+1).toNat=(dig b).drop (i-1+1).toNat
       rw[e,List.drop_eq_getElem_cons (by omega:i.toNat<(dig a).length),List.drop_eq_getElem_cons (by omega:i.toNat<(dig b).length)]
       have e2:i.toNat+1=(i+1).toNat:=by omega
       rw[e2,hd]
       congr 1
       simp only[List.getD,List.getElem?_eq_getElem (by omega:i.toNat<(dig a).length),List.getElem?_eq_getElem (by omega:i.toNat<(dig b).length),Option.getD_some]at heq
       omega
   · simp only[ge_iff_le,decide_eq_false_iff_not]at hp
     have e:(i+1).toNat=0:=by omega
     rw[e]at hd
     have:=dig_inj (by simpa using hd)
     subst this
     simp
theorem ref1_NatAdd_spec {V:View} {s t:Sl} {a b:Nat} (hs:NatAt V s a) (ht:NatAt V t b) (ha:wn a≤2^45) (hb:wn b≤2^45) :
 CallV Tryz.prog n_ref1_NatAdd #[s.v,t.v] V fun v V'=>∃r:Sl,v=r.v∧NatAt V' r (a+b):=by
 refine ref1_NatAdd_vc s t V _ (fun _ x V'=>∃a' b',NatAt V' x.t0 a'∧NatAt V' x.t1 b'∧a'+b'=a+b∧wn a'≤2^45∧x.t1.len≤x.t0.len)
  (fun c x V'=>∃a' b' l k,NatAt V' c.t0 a'∧NatAt V' c.t1 b'∧a'+b'=a+b∧c.t1.len≤c.t0.len∧x.o19=wv l∧WB l∧l.length=c.t0.len+1∧x.t6=(k:Nat)∧k≤1∧0≤x.t7∧x.t7≤c.t0.len ∧
    wval (l.take x.t7.toNat)+k*4294967296^x.t7.toNat=wval ((dig a').take x.t7.toNat)+wval ((dig b').take x.t7.toNat))
  (fun c x _=>(c.t0.len-x.t7).toNat) ⟨⟨fun h=>⟨b,a,ht,hs,by omega,hb,?_⟩,fun h=>⟨a,b,hs,ht,rfl,ha,?_⟩⟩,?_⟩
 · have:s.len<t.len:=by simpa using h
   exact Nat.le_of_lt this
 · have:¬s.len<t.len:=by simpa using h
   exact Nat.le_of_not_lt this
 rintro⟨x,y⟩ V1 hle ⟨a',b',hx,hy,hab,hwa,hlen⟩
 simp only at hx hy hlen ⊢
 have hxl:=hx.len
 have hyl:=hy.len
 simp only[wn]at hwa
 rw[i64w (n:=(x.len:Int)+1) (by omega) (by omega)]
 refine⟨⟨by omega,by omega,by omega,by omega⟩,⟨a',b',List.replicate (x.len+1) 0,0,hx,hy,hab,hlen,?_,WB.zeros _,by simp,rfl,by omega,Int.le_refl _,by show(0:Int)≤x.len; omega,by simp[wval]⟩,?_⟩
 · show(List.replicate (Int.toNat ((x.len:Int)+1)) [Value.int .u32 0]).flatten=_
   rw[show Int.toNat ((x.len:Int)+1)=x.len+1 by omega,wv_zeros]
 rintro⟨k,i,o⟩ V2 hle2 ⟨a2,b2,l,k',hx2,hy2,hab2,_,ho,hwb,hl,hk,hk1,hi0,hi1,hval⟩
 simp only at ho hk hi0 hi1 hval hx2 hy2 hl ⊢
 obtain rfl:=hx2.inj (hx.le hle2)
 obtain rfl:=hy2.inj (hy.le hle2)
 subst hk
 refine⟨fun hp => ?_,fun hp => ?_⟩
 · simp only[decide_eq_true_eq]at hp
   have step:∀(z:Nat),z=(dig a2).getD i.toNat 0+(dig b2).getD i.toNat 0+k'→z<8589934592 →
    (∃a' b' l k,NatAt V2 x a'∧NatAt V2 y b'∧a'+b'=a+b∧y.len≤x.len∧List.set o (0+Int.toNat i*1) (.int .u32 ((z%4294967296:Nat):Int))=wv l∧WB l∧l.length=x.len+1∧((z / 4294967296:Nat):Int)=(k:Nat)∧k≤1∧0≤i+1∧i+1≤x.len ∧
      wval (l.take (i+1).toNat)+k*4294967296^(i+1).toNat=wval ((dig a').take (i+1).toNat)+wval ((dig b').take (i+1).toNat)):=by
    intro z hz hlt
    refine⟨a2,b2,l.set i.toNat (z%4294967296),z / 4294967296,hx2,hy2,hab,hlen,?_,hwb.set (by omega),by simpa using hl,rfl,by omega,by omega,by omega,?_⟩
    · rw[ho,show 0+Int.toNat i*1=i.toNat by omega,wv_set]
    · rw[show(i+1).toNat=i.toNat+1 by omega,wval_take_set (by omega),wval_take_succ,wval_take_succ,Nat.pow_succ]
      have hrc:z%4294967296+z / 4294967296*4294967296=(dig a2).getD i.toNat 0+(dig b2).getD i.toNat 0+k':=by omega
      have:=congrArg (·*4294967296^i.toNat) hrc
      simp only[Nat.add_mul]at this
      grind
   have w1:=hx2.getD_lt i.toNat
   have w2:=hy2.getD_lt i.toNat
   rw[i64w (n:=i+1) (by omega) (by omega)]
   refine⟨⟨by omega,by omega,hx.isSome (by omega)⟩,_,hx2.get (by omega) (by omega),fun hp2 => ?_,fun hp2 => ?_⟩
   · simp only[decide_eq_true_eq]at hp2
     refine⟨⟨by omega,by omega,hy.isSome (by omega)⟩,_,hy2.get (by omega) (by omega),⟨by omega,by omega⟩,by rw[ho,wv_length]; omega,?_⟩
     rw[u64n (z:=(dig a2).getD i.toNat 0) (by omega),u64n (z:=(dig b2).getD i.toNat 0) (by omega),←Int.natCast_add,u64n (by omega),←Int.natCast_add,u64n (by omega),fd32,u32n]
     have g:=step ((dig a2).getD i.toNat 0+k'+(dig b2).getD i.toNat 0) (by omega) (by omega)
     exact⟨g,by show((x.len:Int)-(i+1)).toNat<((x.len:Int)-i).toNat; omega⟩
   · simp only[decide_eq_false_iff_not]at hp2
     have w2:(dig b2).getD i.toNat 0=0:=by simp only[List.getD]; rw[List.getElem?_eq_none (by omega)]; rfl
     refine⟨⟨by omega,by omega⟩,by rw[ho,wv_length]; omega,?_⟩
     rw[u64n (z:=(dig a2).getD i.toNat 0) (by omega),←Int.natCast_add,u64n (by omega),fd32,u32n]
     have g:=step ((dig a2).getD i.toNat 0+k') (by omega) (by omega)
     exact⟨g,by show((x.len:Int)-(i+1)).toNat<((x.len:Int)-i).toNat; omega⟩
 · simp only[decide_eq_false_iff_not]at hp
   refine⟨⟨by omega,by omega⟩,by rw[ho,wv_length]; omega,fun b1 V5 hle5 hb => ?_⟩
   have hi:i.toNat=x.len:=by omega
   have ek:IntKind.u32.wrap (k':Int)=(k':Int):=u32w (by omega) (by omega)
   have hw:Words V5 (Sl.mk (some (Addr.mk b1 0 none)) (Int.toNat ((x.len:Int)+1)) (Int.toNat ((x.len:Int)+1))) (l.set x.len k') :=
    Words.of_block (by rw[hb,ho,show 0+Int.toNat (x.len:Int)*1=x.len by omega,ek,wv_set]) (by simp; omega) (Nat.le_refl _) (hwb.set (by omega))
   refine(ref1_trim_spec hw (by simp; omega)).mono fun v V6 _ ⟨r,hv,hr⟩=>⟨r,hv,r,rfl,?_⟩
   have e:wval (l.set x.len k')=a+b:=by
    have h1:(l.set x.len k')=(l.set x.len k').take (x.len+1):=by rw[List.take_of_length_le]; simp; omega
    rw[h1,wval_take_set (by omega)]
    rw[hi,wval_take_all (l:=dig a2) (by omega),wval_take_all (l:=dig b2) (by omega),wval_dig,wval_dig]at hval
    omega
   rw[e]at hr; exact hr
theorem sub64 {A B k:Nat} (hA:A<4294967296) (hB:B<4294967296) (hk:k≤1) :
 ∃r c:Nat,Int.fdiv (IntKind.u64.wrap ((IntKind.u64.wrap ((A:Int)-(k:Int)))-(B:Int))) (2^(min (Int.toNat 63) (IntKind.u64.bits)))=(c:Int) ∧
  IntKind.u32.wrap (IntKind.u64.wrap ((IntKind.u64.wrap ((A:Int)-(k:Int)))-(B:Int)))=(r:Int)∧r+B+k=A+c*4294967296∧r<4294967296∧c≤1:=by
 have e:IntKind.u64.wrap ((IntKind.u64.wrap ((A:Int)-(k:Int)))-(B:Int))=(((A:Int)-k-B)%18446744073709551616):=by
  rw[u64m,u64m]; omega
 rw[e]
 obtain⟨m,hm⟩:∃m:Nat,((A:Int)-k-B)%18446744073709551616=m:=⟨(((A:Int)-k-B)%18446744073709551616).toNat,by omega⟩
 rw[hm,fd63,u32n]
 exact⟨m%4294967296,m / 9223372036854775808,rfl,rfl,by omega,by omega,by omega⟩
theorem ref1_NatSub_spec {V:View} {s t:Sl} {a b:Nat} (hs:NatAt V s a) (ht:NatAt V t b) (ha:wn a≤2^45) (hba:b≤a) :
 CallV Tryz.prog n_ref1_NatSub #[s.v,t.v] V fun v V'=>∃r:Sl,v=r.v∧NatAt V' r (a-b):=by
 have hsl:=hs.len
 have htl:=ht.len
 have hwn:=wn_mono hba
 simp only[wn]at ha hwn
 refine ref1_NatSub_vc s t V _
  (fun _ x V'=>∃l k:_,x.o11=wv l∧WB l∧l.length=s.len∧x.t6=(k:Nat)∧k≤1∧0≤x.t7∧x.t7≤s.len ∧
    wval (l.take x.t7.toNat)+wval ((dig b).take x.t7.toNat)=wval ((dig a).take x.t7.toNat)+k*4294967296^x.t7.toNat)
  (fun _ x _=>(s.len-x.t7).toNat) ⟨⟨by omega,by omega,by omega,by omega⟩,⟨List.replicate s.len 0,0,?_,WB.zeros _,by simp,rfl,by omega,Int.le_refl _,by show(0:Int)≤s.len; omega,by simp[wval]⟩,?_⟩
 · show(List.replicate (Int.toNat (s.len:Int)) [Value.int .u32 0]).flatten=_
   rw[Int.toNat_natCast,wv_zeros]
 rintro⟨k,i,o⟩ V2 hle2 ⟨l,k',ho,hwb,hl,hk,hk1,hi0,hi1,hval⟩
 simp only at ho hk hi0 hi1 hval hl ⊢
 subst hk
 have hx2:=hs.le hle2
 have hy2:=ht.le hle2
 refine⟨fun hp => ?_,fun hp => ?_⟩
 · simp only[decide_eq_true_eq]at hp
   have step:∀(r c:Nat),r+(dig b).getD i.toNat 0+k'=(dig a).getD i.toNat 0+c*4294967296→r<4294967296→c≤1 →
    (∃l k:_,List.set o (0+Int.toNat i*1) (.int .u32 (r:Nat))=wv l∧WB l∧l.length=s.len∧(c:Int)=(k:Nat)∧k≤1∧0≤i+1∧i+1≤s.len ∧
      wval (l.take (i+1).toNat)+wval ((dig b).take (i+1).toNat)=wval ((dig a).take (i+1).toNat)+k*4294967296^(i+1).toNat):=by
    intro r c hrc hr hc
    refine⟨l.set i.toNat r,c,?_,hwb.set hr,by simpa using hl,rfl,hc,by omega,by omega,?_⟩
    · rw[ho,show 0+Int.toNat i*1=i.toNat by omega,wv_set]
    · rw[show(i+1).toNat=i.toNat+1 by omega,wval_take_set (by omega),wval_take_succ,wval_take_succ,Nat.pow_succ]
      have:=congrArg (·*4294967296^i.toNat) hrc
      simp only[Nat.add_mul]at this
      grind
   have w1:=hx2.getD_lt i.toNat
   have w2:=hy2.getD_lt i.toNat
   rw[i64w (n:=i+1) (by omega) (by omega)]
   refine⟨⟨by omega,by omega,hs.isSome (by omega)⟩,_,hx2.get (by omega) (by omega),fun hp2 => ?_,fun hp2 => ?_⟩
   · simp only[decide_eq_true_eq]at hp2
     refine⟨⟨by omega,by omega,ht.isSome (by omega)⟩,_,hy2.get (by omega) (by omega),⟨by omega,by omega⟩,by rw[ho,wv_length]; omega,?_⟩
     obtain⟨r,c,e1,e2,e3,e4,e5⟩:=sub64 w1 w2 hk1
     rw[u64n (z:=(dig a).getD i.toNat 0) (by omega),u64n (z:=(dig b).getD i.toNat 0) (by omega),e1,e2]
     exact⟨step r c e3 e4 e5,by show((s.len:Int)-(i+1)).toNat<((s.len:Int)-i).toNat; omega⟩
   · simp only[decide_eq_false_iff_not]at hp2
     have w2:(dig b).getD i.toNat 0=0:=by simp only[List.getD]; rw[List.getElem?_eq_none (by omega)]; rfl
     refine⟨⟨by omega,by omega⟩,by rw[ho,wv_length]; omega,?_⟩
     obtain⟨r,c,e1,e2,e3,e4,e5⟩:=sub64 w1 (show 0<4294967296 by omega) hk1
     have e0:IntKind.u64.wrap ((IntKind.u64.wrap ((((dig a).getD i.toNat 0:Nat):Int)-(k':Int)))-((0:Nat):Int))=IntKind.u64.wrap ((((dig a).getD i.toNat 0:Nat):Int)-(k':Int)):=by
      rw[u64m,u64m]; omega
     rw[e0]at e1 e2
     rw[u64n (z:=(dig a).getD i.toNat 0) (by omega),e1,e2]
     exact⟨step r c (by omega) e4 e5,by show((s.len:Int)-(i+1)).toNat<((s.len:Int)-i).toNat; omega⟩
 · simp only[decide_eq_false_iff_not]at hp
   intro b1 V5 hle5 hb
   have hi:i.toNat=s.len:=by omega
   have hw:Words V5 (Sl.mk (some (Addr.mk b1 0 none)) (Int.toNat (s.len:Int)) (Int.toNat (s.len:Int))) l :=
    Words.of_block (by rw[hb,ho]) (by omega) (Nat.le_refl _) hwb
   refine(ref1_trim_spec hw (by omega)).mono fun v V6 _ ⟨r,hv,hr⟩=>⟨r,hv,r,rfl,?_⟩
   rw[hi,wval_take_all (l:=dig a) (by omega),wval_take_all (l:=dig b) (by omega),wval_take_all (by omega),wval_dig,wval_dig]at hval
   have h3:=wval_lt hwb
   have e:wval l=a-b:=by
    rcases Nat.eq_zero_or_pos k' with h0|h0
    · subst h0; omega
    · have:k'=1:=by omega
      subst this
      rw[hl]at h3
      omega
   rw[e]at hr; exact hr
theorem ref1_mul_word {a b:Nat} (ha:a<4294967296) (hb:b<4294967296):a*b≤18446744065119617025 :=
 Nat.le_trans (Nat.mul_le_mul (Nat.le_of_lt_succ ha) (Nat.le_of_lt_succ hb)) (by decide)
theorem ref1_NatMul_spec {V:View} {s t:Sl} {a b:Nat} (hs:NatAt V s a) (ht:NatAt V t b) (ha:wn a≤2^44) (hb:wn b≤2^44) :
 CallV Tryz.prog n_ref1_NatMul #[s.v,t.v] V fun v V'=>∃r:Sl,v=r.v∧NatAt V' r (a*b):=by
 have hsl:=hs.len
 have htl:=ht.len
 simp only[wn]at ha hb
 refine ref1_NatMul_vc s t V _
  (fun _ x _=>∃i l,x=L_ref1_NatMul_0.mk (i:Nat) (wv l)∧i≤s.len∧WB l∧l.length=s.len+t.len∧seg l 0 (i+t.len)=wval ((dig a).take i)*b)
  (fun _ x _=>(s.len-x.t6).toNat)
  (fun c x _=>∃i k cr l,c=C_ref1_NatMul_1.mk (i:Nat)∧i<s.len∧x=L_ref1_NatMul_1.mk (cr:Nat) (k:Nat) (wv l)∧WB l∧l.length=s.len+t.len∧k≤t.len∧cr<4294967296 ∧
    seg l 0 (i+t.len)+cr*4294967296^(i+k)=wval ((dig a).take i)*b+(dig a).getD i 0*wval ((dig b).take k)*4294967296^i)
  (fun _ x _=>(t.len-x.t8).toNat) ?_
 rw[i64w (n:=(s.len:Int)+t.len) (by omega) (by omega)]
 have hn:Int.toNat ((s.len:Int)+t.len)=s.len+t.len:=by omega
 rw[hn]
 refine⟨⟨by omega,by omega,by omega,by omega⟩,⟨0,List.replicate (s.len+t.len) 0,?_,by omega,WB.zeros _,by simp,?_⟩,?_⟩
 · rw[wv_zeros]; rfl
 · rw[seg_rep]; simp[wval]
 rintro _ V2 hle2 ⟨i,l,rfl,hi,hwb,hl,hval⟩
 refine⟨fun hp => ?_,fun hp b1 V4 hle4 hb1 => ?_⟩
 · simp only[decide_eq_true_eq]at hp
   refine⟨⟨i,0,0,l,rfl,by omega,rfl,hwb,hl,by omega,by omega,by simp[hval,wval]⟩,?_⟩
   rintro _ V3 hle3 ⟨i',k,cr,l',hc,hi',rfl,hwb',hl',hk,hcr,hval'⟩
   obtain rfl:i=i':=by simp only[C_ref1_NatMul_1.mk.injEq]at hc; omega
   have hbd:=(WB_dig a).getD i
   simp only[Int.toNat_natCast]
   refine⟨fun hq => ?_,fun hq => ?_⟩
   · simp only[decide_eq_true_eq]at hq
     have hbk:=(WB_dig b).getD k
     have hwl:=hwb'.getD (i+k)
     have hm:=ref1_mul_word hbd hbk
     have hik:i+k<l'.length:=by omega
     rw[i64w (n:=(i:Int)+k) (by omega) (by omega),i64w (n:=(k:Int)+1) (by omega) (by omega)]
     have e1:Int.toNat ((i:Int)+k)=i+k:=by omega
     rw[e1]
     refine⟨⟨by omega,hp,hs.isSome (by omega)⟩,_,(hs.le (View.le_trans hle2 hle3)).get (by show(0:Int)≤(i:Nat); omega) hp,⟨by omega,hq,ht.isSome (by omega)⟩,_,(ht.le (View.le_trans hle2 hle3)).get (by show(0:Int)≤(k:Nat); omega) hq,⟨by omega,by omega⟩,((l'.getD (i+k) 0:Nat):Int),?_,⟨by omega,by omega⟩,?_,?_⟩
     · rw[show 0+(i+k)*1=i+k by omega]; exact wv_get hik
     · rw[wv_length]; omega
     simp only[Int.toNat_natCast]
     rw[u64n (z:=(dig a).getD i 0) (by omega),u64n (z:=(dig b).getD k 0) (by omega),u64n (z:=l'.getD (i+k) 0) (by omega),←Int.natCast_mul,u64n (z:=(dig a).getD i 0*(dig b).getD k 0) (by omega),←Int.natCast_add,
      u64n (z:=(dig a).getD i 0*(dig b).getD k 0+l'.getD (i+k) 0) (by omega),←Int.natCast_add,u64n (by omega),fd32,u32n,show 0+(i+k)*1=i+k by omega]
     generalize hm':(dig a).getD i 0*(dig b).getD k 0=m at *
     generalize hd:m+l'.getD (i+k) 0+cr=z
     rw[wv_set]
     refine⟨⟨i,k+1,z / 4294967296,l'.set (i+k) (z%4294967296),rfl,by omega,by simp,hwb'.set (by omega),by simpa using hl',by omega,by omega,?_⟩,by show((t.len:Int)-((k:Int)+1)).toNat<((t.len:Int)-k).toNat; omega⟩
     have h1:=seg_set (l:=l') (p:=i+k) (d:=z%4294967296) (j:=0) (k:=i+t.len) (by omega) (by omega) hik
     rw[Nat.sub_zero]at h1
     rw[wval_take_succ,←Nat.add_assoc,Nat.pow_succ]
     have h2:z%4294967296+z / 4294967296*4294967296=z:=by omega
     have h3:=congrArg (·*4294967296^(i+k)) h2
     rw[←hd]at h3
     simp only[Nat.add_mul]at h3
     have h4:(dig a).getD i 0*((dig b).getD k 0*4294967296^k)*4294967296^i=m*4294967296^(i+k):=by rw[←hm',Nat.pow_add]; grind
     rw[←hd]at h1
     rw[Nat.mul_add,Nat.add_mul,h4,←hd]
     have h5:∀q,q*(4294967296^(i+k)*4294967296)=q*4294967296*4294967296^(i+k):=by intro q; grind
     rw[h5]
     omega
   · simp only[decide_eq_false_iff_not]at hq
     have hkt:k=t.len:=by omega
     subst hkt
     rw[i64w (n:=(i:Int)+t.len) (by omega) (by omega),i64w (n:=(i:Int)+1) (by omega) (by omega)]
     have e1:Int.toNat ((i:Int)+t.len)=i+t.len:=by omega
     rw[e1,show 0+(i+t.len)*1=i+t.len by omega,u32w (by omega) (by omega),wv_set,wv_length]
     refine⟨⟨by omega,by omega⟩,by omega,⟨i+1,l'.set (i+t.len) cr,by simp,by omega,hwb'.set hcr,by simpa using hl',?_⟩,by show((s.len:Int)-((i:Int)+1)).toNat<((s.len:Int)-i).toNat; omega⟩
     rw[show i+1+t.len=i+t.len+1 by omega,seg_set_last (by omega) (by omega),hval',wval_take_succ,wval_take_all (l:=dig b) (by omega),wval_dig]
     grind
 · simp only[decide_eq_false_iff_not]at hp
   have hi':i=s.len:=by omega
   subst hi'
   rw[seg_all (by omega),wval_take_all (l:=dig a) (by omega),wval_dig]at hval
   have hw:Words V4 (Sl.mk (some (Addr.mk b1 0 none)) (s.len+t.len) (s.len+t.len)) l:=Words.of_block hb1 (by omega) (Nat.le_refl _) hwb
   refine(ref1_trim_spec hw (by omega)).mono fun v V6 _ ⟨r,hv,hr⟩=>⟨r,hv,r,rfl,?_⟩
   rw[hval]at hr; exact hr
theorem ref1_natDigit_spec {V:View} {s:Sl} {a d:Nat} (hs:NatAt V s a) (ha:wn a≤2^45) (hd0:0<d) (hd:d<4294967296) :
 CallV Tryz.prog n_ref1_natDigit #[s.v,.int .u32 (d:Int)] V fun v V'=>∃r:Sl,v = .tuple #[r.v,.int .u32 ((a%d:Nat):Int)]∧NatAt V' r (a / d):=by
 have hsl:=hs.len
 simp only[wn]at ha
 refine ref1_natDigit_vc s d V _
  (fun _ x _=>∃(j k rest:Nat) (l:List Nat),x=L_ref1_natDigit_0.mk (rest:Nat) ((j:Int)-1) (wv l)∧j+k=s.len∧WB l∧l.length=s.len∧rest<d∧seg (dig a) j k=seg l j k*d+rest)
  (fun _ x _=>(x.t8+1).toNat) ⟨⟨by omega,by omega,by omega,by omega⟩,⟨s.len,0,0,List.replicate s.len 0,?_,by omega,WB.zeros _,by simp,hd0,by simp[seg_zero]⟩,?_⟩
 · rw[i64w (by omega) (by omega),Int.toNat_natCast,wv_zeros]; rfl
 rintro _ V1 hle ⟨j,k,rest,l,rfl,hjk,hwb,hl,hr,hval⟩
 refine⟨fun hp => ?_,fun hp b1 V3 hle3 hb1 => ?_⟩
 · simp only[ge_iff_le,decide_eq_true_eq]at hp
   obtain⟨i,rfl⟩:∃i,j=i+1:=⟨j-1,by omega⟩
   simp only[show(((i+1:Nat):Int)-1)=(i:Nat)by omega,Int.toNat_natCast]
   have hw:=(WB_dig a).getD i
   have h1:(rest*4294967296+(dig a).getD i 0) / d<4294967296:=by
    rw[Nat.div_lt_iff_lt_mul (by omega)]
    have:=Nat.mul_le_mul_right 4294967296 (Nat.succ_le_of_lt hr)
    rw[Nat.succ_mul]at this
    omega
   have h2:(rest*4294967296+(dig a).getD i 0)%d<d:=Nat.mod_lt _ (by omega)
   have e:(2:Int)^(min (Int.toNat 32) (IntKind.u64.bits))=4294967296:=by decide
   refine⟨⟨by omega,by omega,hs.isSome (by omega)⟩,_,(hs.le hle).get (i:=(i:Nat)) (by omega) (by omega),?_⟩
   simp only[Int.toNat_natCast]
   rw[u64n (z:=d) (by omega),u64n (z:=(dig a).getD i 0) (by omega),e,show(rest:Int)*4294967296=((rest*4294967296:Nat):Int)by omega,u64n (z:=rest*4294967296) (by omega),or64 hw (by omega),
    u64n (z:=rest*4294967296+(dig a).getD i 0) (by omega),←Int.ofNat_tdiv,←Int.ofNat_tmod,u64n (by omega),u32n,Nat.mod_eq_of_lt h1,i64w (by omega) (by omega),show 0+i*1=i by omega,wv_set]
   refine⟨by omega,⟨by omega,by omega⟩,by rw[wv_length]; omega,by omega,⟨i,k+1,_,_,rfl,by omega,hwb.set h1,by simpa using hl,Nat.mod_lt _ hd0,?_⟩,by show((i:Int)-1+1).toNat<((i:Int)+1).toNat; omega⟩
   rw[Nat.add_comm k 1,seg_split,seg_split _ i 1 k,hval,seg_set_out (j:=i+1) (by omega),seg_succ,seg_succ,seg_zero,seg_zero,Nat.add_zero,getD_set,if_pos ⟨rfl,by omega⟩]
   have:=Nat.div_add_mod (rest*4294967296+(dig a).getD i 0) d
   generalize (rest*4294967296+(dig a).getD i 0) / d=q at *
   generalize (rest*4294967296+(dig a).getD i 0)%d=m at *
   simp only[Nat.pow_zero,Nat.mul_one,Nat.pow_one,Nat.zero_add,Nat.mul_add,Nat.add_mul]
   have e2:4294967296*(seg l (i+1) k*d)=4294967296*seg l (i+1) k*d:=by rw[Nat.mul_assoc]
   have e3:q*d=d*q:=Nat.mul_comm _ _
   omega
 · simp only[ge_iff_le,decide_eq_false_iff_not]at hp
   have hj:j=0:=by omega
   subst hj
   have hk:k=s.len:=by omega
   subst hk
   have hw:Words V3 (Sl.mk (some (Addr.mk b1 0 none)) (Int.toNat (s.len:Int)) (Int.toNat (s.len:Int))) l:=Words.of_block hb1 (by omega) (Nat.le_refl _) hwb
   rw[seg_all (by omega),seg_all (by omega),wval_dig]at hval
   have e1:a / d=wval l:=by rw[hval,Nat.mul_comm,Nat.mul_add_div hd0,Nat.div_eq_of_lt hr]; omega
   have e2:a%d=rest:=by rw[hval,Nat.mul_comm,Nat.mul_add_mod,Nat.mod_eq_of_lt hr]
   refine(ref1_trim_spec hw (by omega)).mono fun v V6 _ ⟨r,hv,hr⟩=>⟨r,hv,r,?_,?_⟩
   · rw[e2,u32n,Nat.mod_eq_of_lt (by omega)]
   · rw[e1]; exact hr
theorem bl_half {x:Nat} (h:x≠0):bl x=bl (x / 2)+1:=by
 by_cases h1:x=1
 · subst h1; decide
 · have:=bl_div (m:=x) 1 (by omega)
   simpa using this
theorem ref1_NatBits_spec {V:View} {s:Sl} {a:Nat} (hs:NatAt V s a) (ha:wn a≤2^45) :
 CallV Tryz.prog n_ref1_NatBits #[s.v] V fun v _=>v = .int .i64 (bl a:Nat):=by
 have hsl:=hs.len
 have hwn:wn a=s.len:=by simp only[wn]; exact hsl.symm
 refine ref1_NatBits_vc s V _ (fun _ x _=>∃k y:Nat,x=L_ref1_NatBits_0.mk (k:Nat) (y:Nat)∧k+bl y=bl ((dig a).getD (wn a-1) 0)∧k≤32) (fun _ x _=>x.t4.toNat) ⟨fun h => ?_,fun h => ?_⟩
 · have h:(s.len:Int)=0:=by simpa using h
   have:a=0:=wn_eq_zero.1 (by omega)
   subst this; rfl
 · have h:¬(s.len:Int)=0:=by simpa using h
   have ha0:a≠0:=by rintro rfl; rw[wn_zero]at hwn; omega
   rw[i64w (n:=(s.len:Int)-1) (by omega) (by omega)]
   have e:Int.toNat ((s.len:Int)-1)=wn a-1:=by omega
   have h2:=bl_wn ha0
   have h3:bl ((dig a).getD (wn a-1) 0)≤32:=by
    have h3:=(top_bounds ha0).2.2
    have:=bl_le h3
    have:=(WB_dig a).getD (wn a-1)
    have:=(Nat.pow_lt_pow_iff_right (a:=2) (n:=bl ((dig a).getD (wn a-1) 0)-1) (m:=32) (by omega)).1 (by omega)
    omega
   refine⟨⟨by omega,by omega,hs.isSome (by omega)⟩,_,hs.get (by omega) (by omega),⟨0,_,rfl,by rw[e]; omega,by omega⟩,?_⟩
   rintro _ V1 l1 ⟨k,y,rfl,hk,hk2⟩
   refine⟨fun hp => ?_,fun hp => ?_⟩
   · simp only[gt_iff_lt,decide_eq_true_eq]at hp
     have hb:=bl_half (x:=y) (by omega)
     have e1:Int.fdiv (y:Int) (2^(min (Int.toNat 1) (IntKind.u32.bits)))=((y / 2:Nat):Int):=by
      have e2:(2:Int)^(min (Int.toNat 1) (IntKind.u32.bits))=2:=by decide
      rw[e2,Int.fdiv_eq_ediv_of_nonneg _ (by omega)]; omega
     simp only[]
     rw[e1,i64w (by omega) (by omega)]
     exact⟨⟨k+1,y / 2,rfl,by omega,by omega⟩,by show((y / 2:Nat):Int).toNat<(y:Int).toNat; omega⟩
   · simp only[gt_iff_lt,decide_eq_false_iff_not]at hp
     have hy:y=0:=by omega
     subst hy
     rw[bl_zero]at hk
     simp only[]
     rw[i64w (n:=32*_) (by omega) (by omega),i64w (by omega) (by omega)]
     congr 1
     omega
theorem ref1_NatShl_spec {V:View} {s:Sl} {a n:Nat} (hs:NatAt V s a) (ha:wn a≤2^44) (hn:n≤2^44) :
 CallV Tryz.prog n_ref1_NatShl #[s.v,.int .i64 (n:Int)] V fun v V'=>∃r:Sl,v=r.v∧NatAt V' r (a*2^n):=by
 have hsl:=hs.len
 have hs0:s.len=0→a=0:=fun h=>wn_eq_zero.1 (by simp only[wn]; omega)
 simp only[wn]at ha
 obtain⟨W,hW⟩:∃W,W=n / 32:=⟨_,rfl⟩
 obtain⟨R,hR⟩:∃R,R=2^(n%32):=⟨_,rfl⟩
 have hR1:R≤2147483648:=by rw[hR]; exact Nat.pow_le_pow_right (by omega) (show n%32≤31 by omega)
 obtain⟨Q,hQ⟩:∃Q,R*Q=4294967296:=⟨2^(32-n%32),by rw[hR,←Nat.pow_add,show n%32+(32-n%32)=32 by omega]⟩
 refine ref1_NatShl_vc s n V _
  (fun _ x _=>∃(i:Nat) (l:List Nat),x=L_ref1_NatShl_0.mk (i:Nat) (wv l)∧i≤s.len∧WB l∧l.length=s.len+W+1∧seg l 0 (i+W+1)=wval ((dig a).take i)*R*4294967296^W∧l.getD (i+W) 0<R)
  (fun _ x _=>(s.len-x.t6).toNat)
  ⟨fun h=>⟨_,rfl,by have h:(s.len:Int)=0:=(by simpa using h); have:=hs0 (by omega); subst this; rw[Nat.zero_mul]; exact NatAt.zero V⟩,fun _ => ?_⟩
 rw[td32,tm32,←hW,i64w (n:=(W:Int)) (by omega) (by omega),i64w (n:=(s.len:Int)+W) (by omega) (by omega),i64w (n:=(s.len:Int)+W+1) (by omega) (by omega),
  u64w (n:=((n%32:Nat):Int)) (by omega) (by omega),Int.toNat_natCast,shp64 (show n%32≤64 by omega),←hR]
 have hN:Int.toNat ((s.len:Int)+W+1)=s.len+W+1:=by omega
 rw[hN]
 refine⟨⟨by omega,by omega,by omega,by omega⟩,⟨0,List.replicate (s.len+W+1) 0,?_,by omega,WB.zeros _,by simp,?_,?_⟩,?_⟩
 · rw[wv_zeros]; rfl
 · rw[seg_rep]; simp[wval]
 · have:(List.replicate (s.len+W+1) 0).getD (0+W) 0=0:=by simp only[List.getD,List.getElem?_replicate]; split<;>rfl
   rw[this,hR]; exact Nat.two_pow_pos _
 rintro _ V2 hle2 ⟨i,l,rfl,hi,hwb,hl,hval,hlt⟩
 refine⟨fun hp => ?_,fun hp b1 V4 hle4 hb1 => ?_⟩
 · simp only[decide_eq_true_eq]at hp
   have hai:=(WB_dig a).getD i
   have hW2:=hwb.getD (i+W)
   simp only[Int.toNat_natCast]
   rw[i64w (n:=(i:Int)+W) (by omega) (by omega),i64w (n:=(i:Int)+W+1) (by omega) (by omega),i64w (n:=(i:Int)+1) (by omega) (by omega)]
   have e1:Int.toNat ((i:Int)+W)=i+W:=by omega
   have e2:Int.toNat ((i:Int)+W+1)=i+W+1:=by omega
   rw[e1,e2,show 0+(i+W)*1=i+W by omega,show 0+(i+W+1)*1=i+W+1 by omega]
   refine⟨⟨by omega,hp,hs.isSome (by omega)⟩,_,(hs.le hle2).get (i:=(i:Nat)) (by omega) hp,by omega,⟨by omega,by omega⟩,((l.getD (i+W) 0:Nat):Int),wv_get (by omega),⟨by omega,by omega⟩,by rw[wv_length]; omega,⟨by omega,by omega⟩,by simp only[List.length_set,wv_length]; omega,?_⟩
   simp only[Int.toNat_natCast]
   generalize hA:(dig a).getD i 0=A at *
   have hm:A*R≤4294967295*2147483648:=Nat.mul_le_mul (by omega) hR1
   rw[u64w (n:=(A:Int)) (by omega) (by omega),←Int.natCast_mul,u64w (n:=((A*R:Nat):Int)) (by omega) (by omega)]
   have e3:(2:Int)^(min (Int.toNat 32) (IntKind.u64.bits))=4294967296:=by decide
   rw[e3,Int.fdiv_eq_ediv_of_nonneg _ (by omega)]
   have e4:IntKind.u32.wrap (((A*R:Nat):Int) / 4294967296)=((A*R / 4294967296:Nat):Int):=by rw[u32w (by omega) (by omega)]; omega
   have e5:IntKind.u32.wrap ((A*R:Nat):Int)=((A*R%4294967296:Nat):Int):=by rw[u32m]; omega
   have e6:A*R%4294967296=(A%Q)*R:=by
    rw[←hQ,Nat.mul_comm A R,Nat.mul_mod_mul_left,Nat.mul_comm]
   have hhi:A*R / 4294967296<R:=by
    rw[Nat.div_lt_iff_lt_mul (by omega),Nat.mul_comm]
    exact Nat.mul_lt_mul_of_pos_left (by omega) (by rw[hR]; exact Nat.two_pow_pos _)
   have hlo:l.getD (i+W) 0+A*R%4294967296<4294967296:=by
    rw[e6]
    have h0:0<Q:=by
     rcases Nat.eq_zero_or_pos Q with h|h
     · subst h; simp at hQ
     · exact h
    have h1:A%Q+1≤Q:=Nat.mod_lt _ h0
    have h2:=Nat.mul_le_mul_right R h1
    rw[Nat.succ_mul,Nat.mul_comm Q R,hQ]at h2
    omega
   rw[e4,e5,or32v hW2 (Nat.mod_lt _ (by omega)),e6]
   have hor:(l.getD (i+W) 0 ||| A%Q*R)=l.getD (i+W) 0+A%Q*R:=by
    rw[hR]at hlt ⊢; exact orDisj hlt
   rw[hor,←e6,u32w (by omega) (by omega),wv_set,wv_set]
   refine⟨⟨i+1,(l.set (i+W) (l.getD (i+W) 0+A*R%4294967296)).set (i+W+1) (A*R / 4294967296),rfl,by omega,(hwb.set (by omega)).set (by omega),by simpa using hl,?_,?_⟩,by show((s.len:Int)-((i:Int)+1)).toNat<((s.len:Int)-i).toNat; omega⟩
   · rw[show i+1+W+1=(i+W+1)+1 by omega,seg_set_last (by omega) (by simp; omega)]
     have h1:=seg_set (l:=l) (p:=i+W) (d:=l.getD (i+W) 0+A*R%4294967296) (j:=0) (k:=i+W+1) (by omega) (by omega) (by omega)
     rw[Nat.sub_zero,hval]at h1
     rw[wval_take_succ,hA,Nat.pow_succ]
     have h2:A*R%4294967296+A*R / 4294967296*4294967296=A*R:=by omega
     have h3:=congrArg (·*4294967296^(i+W)) h2
     simp only[Nat.add_mul]at h1 h3 ⊢
     have h4:A*4294967296^i*R*4294967296^W=A*R*4294967296^(i+W):=by rw[Nat.pow_add]; grind
     have h5:∀q,q*(4294967296^(i+W)*4294967296)=q*4294967296*4294967296^(i+W):=by intro q; grind
     rw[h4,h5]
     omega
   · rw[getD_set,if_pos ⟨by omega,by simp; omega⟩]; exact hhi
 · simp only[decide_eq_false_iff_not]at hp
   have hi':i=s.len:=by omega
   subst hi'
   rw[seg_all (by omega),wval_take_all (l:=dig a) (by omega),wval_dig]at hval
   have hw:Words V4 (Sl.mk (some (Addr.mk b1 0 none)) (s.len+W+1) (s.len+W+1)) l:=Words.of_block hb1 (by omega) (Nat.le_refl _) hwb
   refine(ref1_trim_spec hw (by omega)).mono fun v V6 _ ⟨r,hv,hr⟩=>⟨r,hv,r,rfl,?_⟩
   rw[hval,Nat.mul_assoc,hR,hW,←pow_words]at hr; exact hr
theorem ref1_NatShr_spec {V:View} {s:Sl} {a n:Nat} (hs:NatAt V s a) (ha:wn a≤2^44) (hn:n≤2^44) :
 CallV Tryz.prog n_ref1_NatShr #[s.v,.int .i64 (n:Int)] V fun v V'=>∃r:Sl,v=r.v∧NatAt V' r (a / 2^n):=by
 have hsl:=hs.len
 have hwn:wn a=s.len:=by simp only[wn]; exact hsl.symm
 have haw:=lt_wn a
 rw[hwn]at ha haw
 obtain⟨W,hW⟩:∃W,W=n / 32:=⟨_,rfl⟩
 obtain⟨R,hR⟩:∃R,R=2^(n%32):=⟨_,rfl⟩
 have hR0:0<R:=by rw[hR]; exact Nat.two_pow_pos _
 obtain⟨Q,hQ⟩:∃Q,R*Q=4294967296:=⟨2^(32-n%32),by rw[hR,←Nat.pow_add,show n%32+(32-n%32)=32 by omega]⟩
 have hpow:2^n=4294967296^W*R:=by rw[hR,hW,Nat.mul_comm,←pow_words]
 refine ref1_NatShr_vc s n V _
  (fun _ x _=>∃(i:Nat) (l:List Nat),x=L_ref1_NatShr_0.mk (i:Nat) (wv l)∧i≤s.len-W∧WB l∧l.length=s.len-W∧seg l 0 i=a / 2^n%4294967296^i)
  (fun _ x _=>(s.len-x.t6).toNat) ?_
 rw[td32,tm32,←hW,i64w (n:=(W:Int)) (by omega) (by omega)]
 refine⟨fun h=>⟨_,rfl,?_⟩,fun h => ?_⟩
 · simp only[ge_iff_le,decide_eq_true_eq]at h
   have:a / 2^n=0:=by
    refine Nat.div_eq_of_lt (Nat.lt_of_lt_of_le haw ?_)
    rw[hpow]
    have h1:4294967296^s.len≤4294967296^W:=Nat.pow_le_pow_right (by omega) (by omega)
    have:=Nat.mul_le_mul_left (4294967296^W) hR0
    omega
   rw[this]; exact NatAt.zero V
 simp only[ge_iff_le,decide_eq_false_iff_not]at h
 rw[i64w (n:=(s.len:Int)-W) (by omega) (by omega),u64w (n:=((n%32:Nat):Int)) (by omega) (by omega),Int.toNat_natCast,shp64 (show n%32≤64 by omega),←hR]
 have hN:Int.toNat ((s.len:Int)-W)=s.len-W:=by omega
 rw[hN]
 refine⟨⟨by omega,by omega,by omega,by omega⟩,⟨0,List.replicate (s.len-W) 0,?_,by omega,WB.zeros _,by simp,?_⟩,?_⟩
 · rw[wv_zeros]; rfl
 · simp[seg_zero,Nat.mod_one]
 rintro _ V2 hle2 ⟨i,l,rfl,hi,hwb,hl,hval⟩
 refine⟨fun hp => ?_,fun hp b1 V4 hle4 hb1 => ?_⟩
 · simp only[decide_eq_true_eq]at hp
   simp only[Int.toNat_natCast]
   rw[i64w (n:=(i:Int)+W) (by omega) (by omega),i64w (n:=(i:Int)+W+1) (by omega) (by omega),i64w (n:=(i:Int)+1) (by omega) (by omega)]
   have w1:=(WB_dig a).getD (W+i)
   have w2:=(WB_dig a).getD (W+i+1)
   have e1:Int.toNat ((i:Int)+W)=W+i:=by omega
   have e2:Int.toNat ((i:Int)+W+1)=W+i+1:=by omega
   have e3:(2:Int)^(min (Int.toNat 32) (IntKind.u64.bits))=4294967296:=by decide
   have word:=shr_word (a:=a) (W:=W) (i:=i) hQ hR0
   rw[←hpow]at word
   have step:∀z:Nat,z=(dig a).getD (W+i) 0+4294967296*(dig a).getD (W+i+1) 0 →
    (∃(i':Nat) (l':List Nat),L_ref1_NatShr_0.mk ((i:Int)+1) ((wv l).set (0+i*1) (.int .u32 (IntKind.u32.wrap (Int.fdiv (z:Int) (R:Nat)))))=L_ref1_NatShr_0.mk (i':Nat) (wv l')∧i'≤s.len-W∧WB l'∧l'.length=s.len-W∧seg l' 0 i'=a / 2^n%4294967296^i'):=by
    intro z hz
    have ez:IntKind.u32.wrap (Int.fdiv (z:Int) (R:Nat))=((a / 2^n / 4294967296^i%4294967296:Nat):Int):=by
     rw[Int.fdiv_eq_ediv_of_nonneg _ (by omega),u32m,←word,←hz]; rfl
    rw[ez,show 0+i*1=i by omega,wv_set]
    refine⟨i+1,_,rfl,by omega,hwb.set (Nat.mod_lt _ (by omega)),by simpa using hl,?_⟩
    rw[seg_set_last (by omega) (by omega),hval,Nat.pow_succ,Nat.mod_mul,Nat.mul_comm (4294967296^i)]
   have hme:((s.len:Int)-((i:Int)+1)).toNat<((s.len:Int)-i).toNat:=by omega
   have g1:=(hs.le hle2).get (i:=(i:Int)+W) (by omega) (by omega)
   rw[e1]at g1 ⊢
   refine⟨⟨by omega,by omega,hs.isSome (by omega)⟩,_,g1,fun hq => ?_,fun hq => ?_⟩
   · simp only[decide_eq_true_eq]at hq
     have g2:=(hs.le hle2).get (i:=(i:Int)+W+1) (by omega) (by omega)
     rw[e2]at g2 ⊢
     refine⟨⟨by omega,by omega,hs.isSome (by omega)⟩,_,g2,by omega,⟨by omega,by omega⟩,by rw[wv_length]; omega,?_⟩
     rw[e3,u64w (n:=(((dig a).getD (W+i) 0:Nat):Int)) (by omega) (by omega),u64w (n:=(((dig a).getD (W+i+1) 0:Nat):Int)) (by omega) (by omega),u64w (n:=(((dig a).getD (W+i+1) 0:Nat):Int)*4294967296) (by omega) (by omega),
      show(((dig a).getD (W+i+1) 0:Nat):Int)*4294967296=(((dig a).getD (W+i+1) 0*4294967296:Nat):Int)by omega,or64' w1 w2,u64w (by omega) (by omega)]
     exact⟨step _ (by omega),hme⟩
   · simp only[decide_eq_false_iff_not]at hq
     refine⟨by omega,⟨by omega,by omega⟩,by rw[wv_length]; omega,?_⟩
     rw[u64w (n:=(((dig a).getD (W+i) 0:Nat):Int)) (by omega) (by omega)]
     have h0:(dig a).getD (W+i+1) 0=0:=by simp only[List.getD]; rw[List.getElem?_eq_none (by omega)]; rfl
     exact⟨step _ (by omega),hme⟩
 · simp only[decide_eq_false_iff_not]at hp
   have hi':i=s.len-W:=by omega
   subst hi'
   have hw:Words V4 (Sl.mk (some (Addr.mk b1 0 none)) (s.len-W) (s.len-W)) l:=Words.of_block hb1 (by omega) (Nat.le_refl _) hwb
   refine(ref1_trim_spec hw (by omega)).mono fun v V6 _ ⟨r,hv,hr⟩=>⟨r,hv,r,rfl,?_⟩
   rw[seg_all (by omega)]at hval
   have hlt:a / 2^n<4294967296^(s.len-W):=by
    rw[hpow,←Nat.div_div_eq_div_mul]
    refine Nat.lt_of_le_of_lt (Nat.div_le_self _ _) ?_
    rw[Nat.div_lt_iff_lt_mul (Nat.pow_pos (by omega)),←Nat.pow_add,show s.len-W+W=s.len by omega]
    exact haw
   rw[hval,Nat.mod_eq_of_lt hlt]at hr; exact hr
theorem and32 (P:Nat) (h:P<18446744073709551616):BitVec.toNat ((BitVec.ofInt IntKind.u64.bits (P:Int)) &&& (BitVec.ofInt IntKind.u64.bits 4294967295))=P%4294967296:=by
 rw[BitVec.toNat_and]
 have e1:(BitVec.ofInt IntKind.u64.bits (P:Int)).toNat=P:=of64 h
 have e2:(BitVec.ofInt IntKind.u64.bits 4294967295).toNat=2^32-1:=by decide
 rw[e1,e2,Nat.and_two_pow_sub_one_eq_mod]
structure TakeI (X vN n m j g i cr bo:Nat) (u qd u0:List Nat):Prop where
 div:DivI X vN n m (j+1) u0 qd
 n2:2≤n
 nm:n≤m
 wn:wn vN=n
 g32:g<4294967296
 ge:seg u0 j (n+1) / vN≤g
 gl:(g-1)*vN≤seg u0 j (n+1)
 i_le:i≤n
 wu:WB u
 lu:u.length=m
 cr32:cr<4294967296
 bo1:bo≤1
 out:∀p,p<j∨j+i≤p→u.getD p 0=u0.getD p 0
 val:seg u j i+g*wval ((dig vN).take i)=seg u0 j i+(cr+bo)*4294967296^i
structure BackI (X vN n m j g k cr:Nat) (u qd u0 l':List Nat):Prop where
 div:DivI X vN n m (j+1) u0 qd
 n2:2≤n
 nm:n≤m
 wn:wn vN=n
 wl:WB l'
 ll:l'.length=m
 out:∀i,i<j∨j+n<i→l'.getD i 0=u0.getD i 0
 eq:seg l' j (n+1)+g*vN=seg u0 j (n+1)+4294967296^(n+1)
 g32:g<4294967296
 ge:seg u0 j (n+1) / vN≤g
 gl:(g-1)*vN≤seg u0 j (n+1)
 k_le:k≤n
 cr1:cr≤1
 wu:WB u
 lu:u.length=m
 out2:∀i,i<j∨j+k≤i→u.getD i 0=l'.getD i 0
 val:seg u j k+cr*4294967296^k=seg l' j k+seg (dig vN) 0 k
theorem TakeI.jn {X vN n m j g i cr bo:Nat} {u qd u0:List Nat} (h:TakeI X vN n m j g i cr bo u qd u0):j+n<m:=by
 have:=h.div.jl
 have:=h.nm
 omega
theorem BackI.jn {X vN n m j g i cr:Nat} {u qd u0 l':List Nat} (h:BackI X vN n m j g i cr u qd u0 l'):j+n<m:=by
 have:=h.div.jl
 have:=h.nm
 omega
theorem wn_pos {vN n:Nat} (h:wn vN=n) (hn:2≤n):0<vN:=by
 rcases Nat.eq_zero_or_pos vN with h0|h0
 · subst h0; rw[wn_zero]at h; omega
 · exact h0
theorem TakeI.step {X vN n m j g i cr bo:Nat} {u qd u0:List Nat} (h:TakeI X vN n m j g i cr bo u qd u0) (hi:i<n) :
 ∃low br c:Nat,IntKind.u32.wrap (IntKind.u64.wrap ((IntKind.u64.wrap ((IntKind.u64.wrap ((u.getD (j+i) 0:Nat):Int))-(IntKind.u64.wrap ((BitVec.toNat ((BitVec.ofInt IntKind.u64.bits (IntKind.u64.wrap ((IntKind.u64.wrap ((g:Int)*(IntKind.u64.wrap (((dig vN).getD i 0:Nat):Int))))+(cr:Int)))) &&& (BitVec.ofInt IntKind.u64.bits 4294967295)):Nat):Int))))-(bo:Int)))=(low:Int) ∧
  Int.fdiv (IntKind.u64.wrap ((IntKind.u64.wrap ((IntKind.u64.wrap ((u.getD (j+i) 0:Nat):Int))-(IntKind.u64.wrap ((BitVec.toNat ((BitVec.ofInt IntKind.u64.bits (IntKind.u64.wrap ((IntKind.u64.wrap ((g:Int)*(IntKind.u64.wrap (((dig vN).getD i 0:Nat):Int))))+(cr:Int)))) &&& (BitVec.ofInt IntKind.u64.bits 4294967295)):Nat):Int))))-(bo:Int))) 9223372036854775808=(br:Int) ∧
  Int.fdiv (IntKind.u64.wrap ((IntKind.u64.wrap ((g:Int)*(IntKind.u64.wrap (((dig vN).getD i 0:Nat):Int))))+(cr:Int))) 4294967296=(c:Int) ∧
  TakeI X vN n m j g (i+1) c br (u.set (j+i) low) qd u0:=by
 have hjn:=h.jn
 have hvi:=(WB_dig vN).getD i
 have hui:=h.wu.getD (j+i)
 have hlu:=h.lu
 have hc:=h.cr32
 have hm':=mul_word h.g32 hvi
 have hu0:u0.getD (j+i) 0=u.getD (j+i) 0:=(h.out (j+i) (by omega)).symm
 generalize hA:(dig vN).getD i 0=A at *
 generalize hU:u.getD (j+i) 0=U at *
 obtain⟨P,hP⟩:∃P,P=g*A+cr:=⟨_,rfl⟩
 rw[u64w (n:=(A:Int)) (by omega) (by omega),←Int.natCast_mul,u64w (n:=((g*A:Nat):Int)) (by omega) (by omega),u64w (n:=((g*A:Nat):Int)+cr) (by omega) (by omega),
  show((g*A:Nat):Int)+cr=(P:Nat)by omega,and32 P (by omega),u64w (n:=((P%4294967296:Nat):Int)) (by omega) (by omega),u64w (n:=(U:Int)) (by omega) (by omega),Int.fdiv_eq_ediv_of_nonneg (P:Int) (by omega),
  show(P:Int) / 4294967296=((P / 4294967296:Nat):Int)by omega]
 obtain⟨low,br,h1,h2,h3,h4,h5⟩:=borrow_word hui (Nat.mod_lt P (by omega:0<4294967296)) h.bo1
 refine⟨low,br,_,h4,h5,rfl,h.div,h.n2,h.nm,h.wn,h.g32,h.ge,h.gl,hi,h.wu.set h1,by simpa using hlu,by omega,h2,?_,?_⟩
 · intro p hp
   rw[getD_set,if_neg (by omega)]; exact h.out p (by omega)
 · have hval:=h.val
   rw[seg_set_last rfl (by omega),seg_succ,wval_take_succ,hA,hu0,Nat.pow_succ]
   have h6:low+g*A+cr+bo=U+(P / 4294967296+br)*4294967296:=by
    have:=Nat.div_add_mod P 4294967296
    omega
   have h7:=congrArg (·*4294967296^i) h6
   simp only[Nat.add_mul]at h7 hval ⊢
   have h8:g*(wval (List.take i (dig vN))+A*4294967296^i)=g*wval (List.take i (dig vN))+g*A*4294967296^i:=by rw[Nat.mul_add,Nat.mul_assoc]
   have h9:∀z,z*(4294967296^i*4294967296)=z*4294967296*4294967296^i:=by intro z; grind
   rw[h8,h9,h9]
   omega
theorem TakeI.last {X vN n m j g cr bo:Nat} {u qd u0:List Nat} (h:TakeI X vN n m j g n cr bo u qd u0) :
 ∃low br:Nat,IntKind.u32.wrap (IntKind.u64.wrap ((IntKind.u64.wrap ((IntKind.u64.wrap ((u.getD (j+n) 0:Nat):Int))-(cr:Int)))-(bo:Int)))=(low:Int) ∧
  Int.fdiv (IntKind.u64.wrap ((IntKind.u64.wrap ((IntKind.u64.wrap ((u.getD (j+n) 0:Nat):Int))-(cr:Int)))-(bo:Int))) 9223372036854775808=(br:Int)∧(u.set (j+n) low).length=m ∧
  (br=1→BackI X vN n m j g 0 0 (u.set (j+n) low) qd u0 (u.set (j+n) low)∧0<g)∧(br≠1→DivI X vN n m j (u.set (j+n) low) (qd.set j g)):=by
 have hjn:=h.jn
 have hui:=h.wu.getD (j+n)
 have hlu:=h.lu
 have hu0:u0.getD (j+n) 0=u.getD (j+n) 0:=(h.out (j+n) (by omega)).symm
 generalize hU:u.getD (j+n) 0=U at *
 obtain⟨low,br,h1,h2,h3,h4,h5⟩:=borrow_word hui h.cr32 h.bo1
 rw[u64w (n:=(U:Int)) (by omega) (by omega)]
 refine⟨low,br,h4,h5,?_⟩
 obtain⟨l',hl'⟩:∃l',l'=u.set (j+n) low:=⟨_,rfl⟩
 rw[←hl']
 have hwl':WB l':=by rw[hl']; exact h.wu.set h1
 have hll':l'.length=m:=by rw[hl']; simpa using hlu
 have hout:∀p,p<j∨j+n<p→l'.getD p 0=u0.getD p 0:=by
  intro p hp
  rw[hl',getD_set,if_neg (by omega)]; exact h.out p (by omega)
 have hwv:=h.wn
 have hvpos:=wn_pos hwv h.n2
 have heq:seg l' j (n+1)+g*vN=seg u0 j (n+1)+br*4294967296^(n+1):=by
  have hval:=h.val
  rw[wval_take_all (l:=dig vN) (Nat.le_of_eq hwv),wval_dig]at hval
  rw[hl',seg_set_last rfl (by omega),seg_succ,hu0,Nat.pow_succ]
  have h7:=congrArg (·*4294967296^n) h3
  simp only[Nat.add_mul]at h7 hval
  have h9:br*(4294967296^n*4294967296)=br*4294967296*4294967296^n:=by grind
  rw[h9]
  omega
 have hlt1:=seg_lt hwl' j (n+1)
 refine⟨hll',fun hb => ?_,fun hb => ?_⟩
 · rw[hb,Nat.one_mul]at heq
   refine⟨⟨h.div,h.n2,h.nm,hwv,hwl',hll',hout,heq,h.g32,h.ge,h.gl,by omega,by omega,hwl',hll',fun _ _=>rfl,by simp[seg_zero]⟩,?_⟩
   rcases Nat.eq_zero_or_pos g with h0|h0
   · exfalso; subst h0; omega
   · exact h0
 · have hb0:br=0:=by omega
   rw[hb0,Nat.zero_mul,Nat.add_zero]at heq
   have G9:=guess_of h.div.wu h.n2 hwv h.div.lt
   have hcase:=Guess.le_of G9 h.ge h.gl
   have hvlt:vN<4294967296^n:=by rw[←hwv]; exact lt_wn vN
   obtain⟨W9,hW9⟩:∃W9,W9=seg u0 j (n+1):=⟨_,rfl⟩
   rw[←hW9]at hcase heq
   have hWm:W9%vN<vN:=Nat.mod_lt _ hvpos
   have hWd:=Nat.div_add_mod W9 vN
   have hgq:g=W9 / vN:=by
    rcases hcase with h|h
    · exact h
    · exfalso; rw[h,Nat.succ_mul,Nat.mul_comm]at heq; omega
   have hgm:g*vN=vN*(W9 / vN):=by rw[hgq,Nat.mul_comm]
   have hR:seg l' j (n+1)=W9%vN:=by omega
   refine h.div.next h.nm (R:=W9%vN) (by rw[←hW9]; omega) hWm h.g32 hwl' hll' ?_ (seg_top hR (by omega))
   exact seg_ext fun i _ hi=>hout i (by omega)
theorem BackI.step {X vN n m j g k cr:Nat} {u qd u0 l':List Nat} (h:BackI X vN n m j g k cr u qd u0 l') (hk:k<n) :
 ∃low c:Nat,IntKind.u32.wrap (IntKind.u64.wrap ((IntKind.u64.wrap ((IntKind.u64.wrap ((u.getD (j+k) 0:Nat):Int))+(IntKind.u64.wrap (((dig vN).getD k 0:Nat):Int))))+(cr:Int)))=(low:Int) ∧
  Int.fdiv (IntKind.u64.wrap ((IntKind.u64.wrap ((IntKind.u64.wrap ((u.getD (j+k) 0:Nat):Int))+(IntKind.u64.wrap (((dig vN).getD k 0:Nat):Int))))+(cr:Int))) 4294967296=(c:Int) ∧
  BackI X vN n m j g (k+1) c (u.set (j+k) low) qd u0 l':=by
 have hjn:=h.jn
 have hA:=(WB_dig vN).getD k
 have hU:=h.wu.getD (j+k)
 have hlu:=h.lu
 have hcr:=h.cr1
 have hL:l'.getD (j+k) 0=u.getD (j+k) 0:=(h.out2 (j+k) (by omega)).symm
 generalize hA':(dig vN).getD k 0=A at *
 generalize hU':u.getD (j+k) 0=U at *
 rw[u64w (n:=(U:Int)) (by omega) (by omega),u64w (n:=(A:Int)) (by omega) (by omega),u64w (n:=(U:Int)+A) (by omega) (by omega),u64w (n:=(U:Int)+A+cr) (by omega) (by omega),Int.fdiv_eq_ediv_of_nonneg _ (by omega)]
 have K2:IntKind.u32.wrap ((U:Int)+A+cr)=(((cr+U+A)%4294967296:Nat):Int):=by rw[u32m]; omega
 have K3:((U:Int)+A+cr) / 4294967296=(((cr+U+A) / 4294967296:Nat):Int):=by omega
 refine⟨_,_,K2,K3,h.div,h.n2,h.nm,h.wn,h.wl,h.ll,h.out,h.eq,h.g32,h.ge,h.gl,hk,by omega,h.wu.set (by omega),by simpa using hlu,?_,?_⟩
 · intro i hi; rw[getD_set,if_neg (by omega)]; exact h.out2 i (by omega)
 · have hseg:=h.val
   rw[seg_set_last rfl (by omega),seg_succ,seg_succ,Nat.zero_add,hA',hL,Nat.pow_succ]
   have h6:(cr+U+A)%4294967296+(cr+U+A) / 4294967296*4294967296=cr+U+A:=by omega
   have h7:=congrArg (·*4294967296^k) h6
   simp only[Nat.add_mul]at h7 hseg ⊢
   have h9:∀z,z*(4294967296^k*4294967296)=z*4294967296*4294967296^k:=by intro z; grind
   rw[h9]
   omega
theorem BackI.last {X vN n m j g cr:Nat} {u qd u0 l':List Nat} (h:BackI X vN n m j g n cr u qd u0 l') :
 ∃low:Nat,IntKind.u32.wrap (((u.getD (j+n) 0:Nat):Int)+IntKind.u32.wrap (cr:Int))=(low:Int)∧DivI X vN n m j (u.set (j+n) low) (qd.set j (g-1)):=by
 have hjn:=h.jn
 have hT:=h.wu.getD (j+n)
 have hcr:=h.cr1
 have hlu:=h.lu
 have hL:l'.getD (j+n) 0=u.getD (j+n) 0:=(h.out2 (j+n) (by omega)).symm
 generalize hT':u.getD (j+n) 0=T at *
 have K1:IntKind.u32.wrap ((T:Int)+IntKind.u32.wrap (cr:Int))=(((T+cr)%4294967296:Nat):Int):=by rw[u32w (n:=(cr:Int)) (by omega) (by omega),u32m]; omega
 refine⟨_,K1,?_⟩
 have hwv:=h.wn
 have hvpos:=wn_pos hwv h.n2
 have hvlt:vN<4294967296^n:=by rw[←hwv]; exact lt_wn vN
 have hlt1:=seg_lt h.wl j (n+1)
 have heq:=h.eq
 have hge:=h.ge
 have hgl:=h.gl
 have hW3:∃R,seg u0 j (n+1)=R+(g-1)*vN∧R<vN∧seg l' j (n+1)+vN=R+4294967296^(n+1):=by
  obtain⟨W3,hW3⟩:∃W3,W3=seg u0 j (n+1):=⟨_,rfl⟩
  rw[←hW3]at heq hge hgl ⊢
  have h2:W3 / vN<g:=by
   rw[Nat.div_lt_iff_lt_mul hvpos]; omega
  have h3:g-1=W3 / vN:=by
   have:=(Nat.le_div_iff_mul_le hvpos).2 hgl
   omega
  have h4:=Nat.div_add_mod' W3 vN
  have h5:W3%vN<vN:=Nat.mod_lt _ hvpos
  refine⟨W3%vN,by rw[h3]; omega,h5,?_⟩
  have h6:g*vN=(g-1)*vN+vN:=by
   obtain⟨q,rfl⟩:∃q,g=q+1:=⟨g-1,by omega⟩
   rw[Nat.succ_mul,Nat.add_sub_cancel]
  rw[h3]at h6
  omega
 obtain⟨R,hR1,hR2,hR3⟩:=hW3
 have hfin:seg (u.set (j+n) ((T+cr)%4294967296)) j (n+1)=R:=by
  rw[seg_set_last rfl (by omega)]
  rw[seg_succ,hL]at hR3
  have hseg:=h.val
  rw[seg_dig vN (Nat.le_of_eq hwv)]at hseg
  exact add_back (seg_lt h.wu j n) (by omega) hT hcr hR3 hseg
 have hg1:g-1<4294967296:=by have:=h.g32; omega
 refine h.div.next h.nm hR1 hR2 hg1 (h.wu.set (by omega)) (by simpa using hlu) ?_ (seg_top hfin (by omega))
 rw[seg_set_out (by omega)]
 exact seg_ext fun i _ hi=>(h.out2 i (by omega)).trans (h.out i (by omega))
set_option maxHeartbeats 4000000 in
theorem ref1_NatDiv_spec {V:View} {s t:Sl} {a b:Nat} (hs:NatAt V s a) (ht:NatAt V t b) (ha:wn a≤2^43) (hb0:b≠0) :
 CallV Tryz.prog n_ref1_NatDiv #[s.v,t.v] V fun v V'=>∃q r:Sl,v = .tuple #[q.v,r.v]∧NatAt V' q (a / b)∧NatAt V' r (a%b):=by
 have hsl:=hs.len
 have htl:=ht.len
 obtain⟨sh,hsh⟩:∃sh,sh=32-bl ((dig b).getD (wn b-1) 0):=⟨_,rfl⟩
 obtain⟨hsh1,hwv,hlo⟩:=div_norm hb0 hsh
 obtain⟨X,hX⟩:∃X,X=a*2^sh:=⟨_,rfl⟩
 obtain⟨vN,hvN⟩:∃v,v=b*2^sh:=⟨_,rfl⟩
 rw[←hvN]at hwv hlo
 obtain⟨m,hm⟩:∃m,m=s.len+1:=⟨_,rfl⟩
 obtain⟨n,hn⟩:∃n,n=t.len:=⟨_,rfl⟩
 have hna:wn a=s.len:=hsl.symm
 have hnb:wn b=n:=by rw[hn]; exact htl.symm
 have hal:=lt_wn a
 rw[hna]at ha hal
 rw[hnb]at hwv hlo
 have hcmp:=ref1_NatCmp_spec hs ht (by omega)
 obtain⟨v1,hv1⟩:∃v1,v1=(dig vN).getD (n-1) 0:=⟨_,rfl⟩
 obtain⟨v2,hv2⟩:∃v2,v2=(dig vN).getD (n-2) 0:=⟨_,rfl⟩
 refine ref1_NatDiv_vc s t V _
  (fun c x V'=>∃(v:Sl) (j:Nat) (u qd:List Nat),c=C_ref1_NatDiv_0.mk (sh:Nat) v (n:Nat) (m-n) (m-n)∧NatAt V' v vN∧x=L_ref1_NatDiv_0.mk ((j:Int)-1) (wv u) (wv qd)∧DivI X vN n m j u qd)
  (fun _ x _=>(x.t13+1).toNat)
  (fun c x _=>∃(v:Sl) (j g:Nat) (u qd:List Nat),c=C_ref1_NatDiv_1.mk (sh:Nat) v (n:Nat) (m-n) (m-n) (j:Nat) (wv u) (wv qd)∧x=L_ref1_NatDiv_1.mk (g:Nat)∧g<4294967296∧seg u j (n+1) / vN≤g∧(g-1)*vN≤seg u j (n+1))
  (fun c x _=>∃(v:Sl) (j g r:Nat) (u qd:List Nat),c=C_ref1_NatDiv_2.mk (sh:Nat) v (n:Nat) (m-n) (m-n) (j:Nat) (wv u) (wv qd)∧x=L_ref1_NatDiv_2.mk (g:Nat) (r:Nat)∧r<4294967296∧g*v1+r=u.getD (j+n) 0*4294967296+u.getD (j+n-1) 0 ∧
    seg u j (n+1) / vN≤g)
  (fun _ x _=>x.t15.toNat)
  (fun c x _=>∃(v:Sl) (j g i cr bo:Nat) (u qd u0:List Nat),c=C_ref1_NatDiv_3.mk (sh:Nat) v (n:Nat) (m-n) (m-n) (j:Nat) (g:Nat)∧x=L_ref1_NatDiv_3.mk (bo:Nat) (cr:Nat) (i:Nat) (wv u) (wv qd)∧TakeI X vN n m j g i cr bo u qd u0)
  (fun _ x _=>(n-x.t19).toNat)
  (fun c x _=>∃(v:Sl) (j g k cr:Nat) (u qd u0 l':List Nat),c=C_ref1_NatDiv_4.mk (sh:Nat) v (n:Nat) (m-n) (m-n) (j:Nat) ((g-1:Nat):Int)∧x=L_ref1_NatDiv_4.mk (cr:Nat) (k:Nat) (wv u) (wv qd)∧0<g∧BackI X vN n m j g k cr u qd u0 l')
  (fun _ x _=>(n-x.t23).toNat)
  (hcmp.mono fun v V1 l1 hv=>⟨_,hv,fun hlt => ?_,fun hge=>⟨fun h1 => ?_,fun h2 => ?_⟩⟩)
 ·
   have hlt:a<b:=by
    rcases Nat.lt_or_ge a b with h|h
    · exact h
    · exfalso; revert hlt; rw[if_neg (by omega)]; split<;>simp
   exact⟨_,_,rfl,by rw[Nat.div_eq_of_lt hlt]; exact NatAt.zero V1,by rw[Nat.mod_eq_of_lt hlt]; exact hs.le l1⟩
 ·
   have h1:n=1:=by have:(t.len:Int)=1:=(by simpa using h1); omega
   have hb1:b<4294967296:=by have:=lt_wn b; rw[hnb,h1]at this; simpa using this
   have hd:(dig b).getD 0 0=b:=by rw[dig_getD]; simp; omega
   have hg:=(ht.le l1).get (i:=0) (by omega) (by omega)
   simp only[Int.toNat_zero,hd]at hg
   refine⟨⟨by omega,by omega,ht.isSome (by omega)⟩,_,hg,?_⟩
   refine(ref1_natDigit_spec (hs.le l1) (by omega) (by omega) hb1).mono fun v V2 l2 ⟨q,hv,hq⟩=>⟨q,_,hv,?_⟩
   have hmod:a%b<b:=Nat.mod_lt _ (by omega)
   rw[u64w (by omega) (by omega)]
   refine(ref1_NatOf_spec (by omega) (by omega)).mono fun v V3 l3 ⟨r,hv,hr⟩=>⟨r,hv,q,r,rfl,hq.le l3,?_⟩
   rw[Int.toNat_natCast]at hr; exact hr
 have hab:b≤a:=by
  rcases Nat.lt_or_ge a b with h|h
  · exfalso; revert hge; rw[if_pos h]; simp
  · exact h
 have hnm:n≤s.len:=by rw[←hna,←hnb]; exact wn_mono hab
 have hn0:n≠0:=by rw[←hnb]; intro e; exact hb0 (wn_eq_zero.1 e)
 have hn2:2≤n:=by have:¬(t.len:Int)=1:=(by simpa using h2); omega
 have E2:IntKind.i64.wrap ((s.len:Int)+1)=(m:Nat):=by rw[i64w (by omega) (by omega)]; omega
 have E3:IntKind.i64.wrap ((m:Int)-(n:Int))=((m-n:Nat):Int):=by rw[i64w (by omega) (by omega)]; omega
 have E1:IntKind.i64.wrap ((n:Int)-1)=((n-1:Nat):Int):=by rw[i64w (by omega) (by omega)]; omega
 have E4:IntKind.i64.wrap ((n:Int)-2)=((n-2:Nat):Int):=by rw[i64w (by omega) (by omega)]; omega
 have E5:IntKind.i64.wrap (((m-n:Nat):Int)-1)=((m-n:Nat):Int)-1:=by rw[i64w (by omega) (by omega)]
 have E6:(t.len:Int)=(n:Nat):=by omega
 have hblb:=bl_wn hb0
 have hbltop:bl ((dig b).getD (wn b-1) 0)≤32:=by
  have h3:=(top_bounds hb0).2.2
  have:=bl_le h3
  have:=(WB_dig b).getD (wn b-1)
  have:=(Nat.pow_lt_pow_iff_right (a:=2) (n:=bl ((dig b).getD (wn b-1) 0)-1) (m:=32) (by omega)).1 (by omega)
  omega
 have Esh:IntKind.i64.wrap (IntKind.i64.wrap (32*(t.len:Int))-(bl b:Nat))=(sh:Nat):=by
  rw[i64w (n:=32*(t.len:Int)) (by omega) (by omega),i64w (by omega) (by omega)]; omega
 refine(ref1_NatBits_spec (ht.le l1) (by omega)).mono fun v V4 l4 hv=>⟨_,hv,?_⟩
 simp only[Esh]
 refine(ref1_NatShl_spec (ht.le (View.le_trans l1 l4)) (by omega) (by omega)).mono fun v V5 l5 ⟨w,hv,hw⟩=>⟨w,hv,?_⟩
 rw[←hvN]at hw
 have hwl:w.len=n:=by have:=hw.len; simp only[wn]at hwv; omega
 simp only[E2,Int.toNat_natCast,hwl,E3,E1,E4,E5]
 refine⟨⟨by omega,by omega,by omega,by omega⟩,(ref1_NatShl_spec (hs.le (View.le_trans l1 (View.le_trans l4 l5))) (by omega) (by omega)).mono fun v V6 l6 ⟨ua,hv,hua⟩=>⟨ua,hv,?_⟩⟩
 rw[←hX]at hua
 have hXm:wn X≤m:=by
  refine wn_le_of_lt ?_
  rw[hX,hm,Nat.pow_succ]
  exact Nat.mul_lt_mul'' hal (Nat.lt_of_le_of_lt (Nat.pow_le_pow_right (by omega) hsh1) (by omega))
 have hual:=hua.len
 simp only[wn]at hXm
 refine⟨wv (dig X),Words.has hua,by rw[wv_length]; omega,?_,?_,?_,⟨by omega,by omega,by omega,by omega⟩,?_⟩
 · by_cases h0:ua.len=0
   · left; have:(dig X).length=0:=by omega
     rw[List.eq_nil_of_length_eq_zero this]; rfl
   · right; exact hua.isSome (by omega)
 · intro v hv; simp only[wv,List.mem_map]at hv; obtain⟨d,_,rfl⟩:=hv; rfl
 · rw[wv_zeros,wv_length,wv_length]; simp; omega
 rw[wv_zeros,wv_zeros,setL_wv m (dig X) (by omega)]
 have hq0:seg (dig X++List.replicate (m-(dig X).length) 0) 0 m=X:=by
  rw[seg_all (by simp; omega),wval_pad,wval_dig]
 have h7:=div_first hal hm hX hsh1 (by omega) (by omega) hlo _ hq0
 refine⟨⟨w,m-n,_,_,rfl,hw.le l6,rfl,by omega,?_,by simp; omega,WB.zeros _,by simp,?_,h7⟩,?_⟩
 · intro d hd
   rcases List.mem_append.1 hd with hd|hd
   · exact WB_dig X d hd
   · rw[(List.mem_replicate.1 hd).2]; omega
 · rw[show m-n+n=m by omega,hq0,Nat.sub_self,seg_zero]; simp
 rintro _ V7 hle7 ⟨w',j,u,qd,hc,hw7,rfl,hD⟩
 obtain rfl:w'=w:=by simp only[C_ref1_NatDiv_0.mk.injEq]at hc; exact hc.2.1.symm
 have hjl:=hD.jl
 have hlu:=hD.lu
 have hlq:=hD.lq
 have hwu:=hD.wu
 simp only[sh32_64]
 refine⟨fun hp => ?_,fun hp b1 V12 l12 hb1 b2 V13 l13 hb2 => ?_⟩
 · simp only[ge_iff_le,decide_eq_true_eq]at hp
   obtain⟨i,rfl⟩:∃i,j=i+1:=⟨j-1,by omega⟩
   have e0:(((i+1:Nat):Int)-1)=(i:Nat):=by omega
   simp only[e0]
   have F1:IntKind.i64.wrap ((i:Int)+(n:Int))=((i+n:Nat):Int):=by rw[i64w (by omega) (by omega)]; omega
   have F2:IntKind.i64.wrap (((i+n:Nat):Int)-1)=((i+n-1:Nat):Int):=by rw[i64w (by omega) (by omega)]; omega
   have F3:IntKind.i64.wrap (((i+n:Nat):Int)-2)=((i+n-2:Nat):Int):=by rw[i64w (by omega) (by omega)]; omega
   have F4:IntKind.i64.wrap ((i:Int)-1)=(i:Int)-1:=by rw[i64w (by omega) (by omega)]
   simp only[F1,F2,F3,F4,Int.toNat_natCast,Nat.zero_add,Nat.mul_one]
   have G:=guess_of hwu hn2 hwv hD.lt
   rw[←hv1,←hv2]at G
   obtain⟨W,hW⟩:∃W,W=seg u i (n+1):=⟨_,rfl⟩
   obtain⟨u2,hu2⟩:∃x,x=u.getD (i+n) 0:=⟨_,rfl⟩
   obtain⟨u1,hu1⟩:∃x,x=u.getD (i+n-1) 0:=⟨_,rfl⟩
   obtain⟨u0,hu0⟩:∃x,x=u.getD (i+n-2) 0:=⟨_,rfl⟩
   rw[←hW,←hu2,←hu1,←hu0]at G
   have hu2l:u2<4294967296:=by rw[hu2]; exact hwu.getD _
   have hv1l:=G.h1
   have hv1p:=G.pos
   have hu1l:=G.k1
   have hv1b:2147483648≤v1:=by
    have hvn0:vN≠0:=by rintro rfl; rw[wn_zero]at hwv; omega
    have h3:=(top_bounds hvn0).2.1
    rw[hwv,←hv1]at h3
    have h4:2147483648*4294967296^(n-1)<(v1+1)*4294967296^(n-1):=by omega
    have:=Nat.lt_of_mul_lt_mul_right h4
    omega
   have gv1:=(hw7).get (i:=((n-1:Nat):Int)) (by omega) (by omega)
   rw[Int.toNat_natCast,←hv1,Nat.mul_one]at gv1
   have gv2:=(hw7).get (i:=((n-2:Nat):Int)) (by omega) (by omega)
   rw[Int.toNat_natCast,←hv2,Nat.mul_one]at gv2
   have hws:=hw7.isSome (by omega)
   have hor:BitVec.toNat ((BitVec.ofInt IntKind.u64.bits (IntKind.u64.wrap ((IntKind.u64.wrap (u2:Int))*4294967296))) ||| (BitVec.ofInt IntKind.u64.bits (IntKind.u64.wrap (u1:Int))))=u2*4294967296+u1:=by
    rw[u64w (n:=(u2:Int)) (by omega) (by omega),u64w (n:=(u1:Int)) (by omega) (by omega),u64w (by omega) (by omega),show(u2:Int)*4294967296=((u2*4294967296:Nat):Int)by omega]
    exact or64 hu1l hu2l
   refine⟨⟨by omega,by omega⟩,_,wv_get (by omega),⟨by omega,by omega⟩,_,wv_get (by omega),⟨by omega,by omega,hws⟩,_,gv1,?_,⟨by omega,by omega,hws⟩,_,gv1,?_,⟨?_,?_⟩,?_⟩
   · rw[u64w (by omega) (by omega)]; omega
   · rw[u64w (by omega) (by omega)]; omega
   ·
     rw[←hu2,←hu1,hor,u64w (n:=(v1:Int)) (by omega) (by omega),u64w (n:=((u2*4294967296+u1:Nat):Int)) (by omega) (by omega),←Int.ofNat_tdiv,←Int.ofNat_tmod]
     have h3:(u2*4294967296+u1) / v1≤u2*4294967296+u1:=Nat.div_le_self _ _
     have h4:(u2*4294967296+u1)%v1<v1:=Nat.mod_lt _ hv1p
     have h5:=Nat.div_add_mod' (u2*4294967296+u1) v1
     have h6:=G.init
     generalize (u2*4294967296+u1) / v1=g at *
     generalize (u2*4294967296+u1)%v1=r at *
     rw[u64w (n:=(g:Int)) (by omega) (by omega)]
     refine⟨w',i,g,r,u,qd,rfl,rfl,by omega,?_,?_⟩
     · rw[←hu2,←hu1]; exact h5
     · rw[←hW]; exact h6
   ·
     rintro _ V9 l9 ⟨w2,i2,g,r,u',qd',hc2,rfl,hr,hgr,hge⟩
     simp only[C_ref1_NatDiv_2.mk.injEq]at hc2
     obtain⟨_,rfl,_,_,_,hi2,hu',hq'⟩:=hc2
     obtain rfl:i2=i:=by omega
     obtain rfl:=wv_inj hu'
     obtain rfl:=wv_inj hq'
     rw[←hu2,←hu1]at hgr
     rw[←hW]at hge
     have hgl:g<8589934592:=by
      rcases Nat.lt_or_ge g 8589934592 with h|h
      · exact h
      · exfalso
        have:=Nat.mul_le_mul h hv1b
        omega
     have gv1':=View.load_le l9 gv1
     have gv2':=View.load_le l9 gv2
     simp only
     have down:0<g→W / vN≤g-1→(4294967296≤r+v1→(g-1-1)*vN≤W∧g-1<4294967296) →
      ((decide (((IntKind.u64.wrap ((r:Int)+(IntKind.u64.wrap (v1:Int)))):Int)≥4294967296))=true →
        ∃(v:Sl) (j g':Nat) (u1 qd1:List Nat),C_ref1_NatDiv_1.mk (sh:Nat) w' (n:Nat) (m-n) (m-n) (i2:Nat) (wv u) (wv qd)=C_ref1_NatDiv_1.mk (sh:Nat) v (n:Nat) (m-n) (m-n) (j:Nat) (wv u1) (wv qd1)∧L_ref1_NatDiv_1.mk (IntKind.u64.wrap ((g:Int)-1))=L_ref1_NatDiv_1.mk (g':Nat)∧g'<4294967296∧seg u1 j (n+1) / vN≤g'∧(g'-1)*vN≤seg u1 j (n+1)) ∧
      ((decide (((IntKind.u64.wrap ((r:Int)+(IntKind.u64.wrap (v1:Int)))):Int)≥4294967296))=false →
        (∃(v:Sl) (j g' r':Nat) (u1 qd1:List Nat),C_ref1_NatDiv_2.mk (sh:Nat) w' (n:Nat) (m-n) (m-n) (i2:Nat) (wv u) (wv qd)=C_ref1_NatDiv_2.mk (sh:Nat) v (n:Nat) (m-n) (m-n) (j:Nat) (wv u1) (wv qd1) ∧
          L_ref1_NatDiv_2.mk (IntKind.u64.wrap ((g:Int)-1)) (IntKind.u64.wrap ((r:Int)+(IntKind.u64.wrap (v1:Int))))=L_ref1_NatDiv_2.mk (g':Nat) (r':Nat)∧r'<4294967296∧g'*v1+r'=u1.getD (j+n) 0*4294967296+u1.getD (j+n-1) 0∧seg u1 j (n+1) / vN≤g') ∧
        (IntKind.u64.wrap ((g:Int)-1)).toNat<(g:Int).toNat):=by
      intro h0 h1 h2
      rw[u64w (n:=(v1:Int)) (by omega) (by omega),u64w (n:=(r:Int)+v1) (by omega) (by omega),u64w (n:=(g:Int)-1) (by omega) (by omega)]
      have e1:(g:Int)-1=((g-1:Nat):Int):=by omega
      have e2:(r:Int)+v1=((r+v1:Nat):Int):=by omega
      rw[e1,e2]
      refine⟨fun h => ?_,fun h => ?_⟩
      · simp only[ge_iff_le,decide_eq_true_eq]at h
        obtain⟨h3,h4⟩:=h2 (by omega)
        exact⟨w',i2,g-1,u,qd,rfl,rfl,h4,by rw[←hW]; exact h1,by rw[←hW]; exact h3⟩
      · simp only[ge_iff_le,decide_eq_false_iff_not]at h
        refine⟨⟨w',i2,g-1,r+v1,u,qd,rfl,rfl,by omega,?_,by rw[←hW]; exact h1⟩,by omega⟩
        rw[←hu2,←hu1,←hgr]
        obtain⟨k,rfl⟩:∃k,g=k+1:=⟨g-1,by omega⟩
        rw[Nat.succ_mul,Nat.add_sub_cancel]; omega
     refine⟨fun hp2=>⟨fun _ => ?_,fun h=>by cases h⟩,fun hp2 => ?_⟩
     · simp only[ge_iff_le,decide_eq_true_eq]at hp2
       have hq:=G.quo
       refine⟨⟨by omega,by omega,hws⟩,_,gv1',?_⟩
       exact down (by omega) (by omega) (fun h=>(G.brk hgr (by omega) h).symm)
     · simp only[ge_iff_le,decide_eq_false_iff_not]at hp2
       have hg32:g<4294967296:=by omega
       have hv2l:=G.h2
       have hm1:=mul_word hg32 hv2l
       have hu0l:=G.k0
       refine⟨⟨by omega,by omega,hws⟩,_,gv2',⟨by omega,by omega⟩,_,wv_get (by omega),?_⟩
       rw[←hu0]
       have hor2:BitVec.toNat ((BitVec.ofInt IntKind.u64.bits (IntKind.u64.wrap ((r:Int)*4294967296))) ||| (BitVec.ofInt IntKind.u64.bits (IntKind.u64.wrap (u0:Int))))=r*4294967296+u0:=by
        rw[u64w (n:=(u0:Int)) (by omega) (by omega),u64w (by omega) (by omega),show(r:Int)*4294967296=((r*4294967296:Nat):Int)by omega]
        exact or64 hu0l hr
       rw[hor2,u64w (n:=(v2:Int)) (by omega) (by omega),←Int.natCast_mul,u64w (n:=((g*v2:Nat):Int)) (by omega) (by omega),u64w (n:=((r*4294967296+u0:Nat):Int)) (by omega) (by omega)]
       refine⟨fun hp3 => ?_,fun hp3 => ?_⟩
       · simp only[gt_iff_lt,decide_eq_true_eq]at hp3
         have hd:=G.dec hgr (by omega)
         refine⟨⟨by omega,by omega,hws⟩,_,gv1',?_⟩
         have hg0:0<g:=Nat.lt_of_le_of_lt (Nat.zero_le _) hd
         exact down hg0 (Nat.le_sub_one_of_lt hd) (fun h=>(G.brk hgr hg0 h).symm)
       · simp only[gt_iff_lt,decide_eq_false_iff_not]at hp3
         exact⟨w',i2,g,u,qd,rfl,rfl,hg32,by rw[←hW]; exact hge,by rw[←hW]; exact G.exit hgr hg32 (by omega)⟩
   ·
     rintro _ V8 l8 ⟨w2,i2,g,u',qd',hc2,rfl,hg32,hge,hgl⟩
     simp only[C_ref1_NatDiv_1.mk.injEq]at hc2
     obtain⟨_,rfl,_,_,_,hi2,hu',hq'⟩:=hc2
     obtain rfl:i2=i:=by omega
     obtain rfl:=wv_inj hu'
     obtain rfl:=wv_inj hq'
     refine⟨⟨w',i2,g,0,0,0,u,qd,u,rfl,rfl,hD,hn2,by omega,hwv,hg32,hge,hgl,by omega,hwu,hlu,by omega,by omega,fun _ _=>rfl,by simp[seg_zero,wval]⟩,?_⟩
     clear G hge hgl gv1 gv2 hor hq0 h7 hXm hual hua hcmp hlo hX hvN hsh hblb hbltop Esh hv1 hv2 hu2 hu1 hu0 hW
     rintro _ V10 l10 ⟨w2,i9,g9,k,c0,b0,u9,qd9,u00,hc9,rfl,hT⟩
     simp only[C_ref1_NatDiv_3.mk.injEq]at hc9
     obtain⟨_,rfl,_,_,_,hi9,hgg⟩:=hc9
     obtain rfl:i2=i9:=by omega
     obtain rfl:g=g9:=by omega
     have hjn:=hT.jn
     have hkn:=hT.i_le
     have hlu9:=hT.lu
     have hlq9:=hT.div.lq
     have hme:((i2:Int)-1+1).toNat<(((i2+1:Nat):Int)).toNat:=by omega
     simp only[sh63_64,Int.toNat_natCast]
     refine⟨fun hp2 => ?_,fun hp2 => ?_⟩
     · simp only[decide_eq_true_eq]at hp2
       have hkn:k<n:=by omega
       have K1:IntKind.i64.wrap ((k:Int)+i2)=((i2+k:Nat):Int):=by rw[i64w (by omega) (by omega)]; omega
       simp only[K1,Int.toNat_natCast]
       have gk:=(hw7.le (View.le_trans l8 l10)).get (i:=(k:Nat)) (by omega) (by omega)
       simp only[Int.toNat_natCast,Nat.mul_one]at gk
       refine⟨⟨by omega,by omega,hws⟩,_,gk,⟨by omega,by omega⟩,_,wv_get (by omega),⟨by omega,by omega⟩,by rw[wv_length]; omega,?_⟩
       obtain⟨low,br,c,e1,e2,e3,hT'⟩:=hT.step hkn
       rw[e1,e2,e3,wv_set,i64w (n:=(k:Int)+1) (by omega) (by omega)]
       exact⟨⟨w',i2,g,k+1,c,br,_,qd9,u00,rfl,rfl,hT'⟩,by omega⟩
     simp only[decide_eq_false_iff_not]at hp2
     obtain rfl:n=k:=by omega
     refine⟨⟨by omega,by omega⟩,_,wv_get (by omega),⟨by omega,by omega⟩,by rw[wv_length]; omega,?_⟩
     obtain⟨low,br,e1,e2,hl',hb1,hb0⟩:=hT.last
     rw[e1,e2,wv_set]
     refine⟨fun hn1 => ?_,fun hn1 => ?_⟩
     ·
       obtain⟨hB,hg0⟩:=hb1 (by have:(br:Int)=1:=(by simpa using hn1); omega)
       rw[u64w (n:=(g:Int)-1) (by omega) (by omega),show(g:Int)-1=((g-1:Nat):Int)by omega]
       refine⟨⟨w',i2,g,0,0,_,qd9,u00,_,rfl,rfl,hg0,hB⟩,?_⟩
       clear hT hB hb1 hb0 hl' e1 e2
       rintro _ V11 l11 ⟨w3,i3,g3,k3,cr,u3,qd3,u03,l3,hc3,rfl,hg3,hB⟩
       simp only[C_ref1_NatDiv_4.mk.injEq]at hc3
       obtain⟨_,rfl,_,_,_,hi3,hg3'⟩:=hc3
       obtain rfl:i2=i3:=by omega
       obtain rfl:g=g3:=by omega
       have hjn:=hB.jn
       have hkn:=hB.k_le
       have hlu3:=hB.lu
       have hlq3:=hB.div.lq
       simp only[Int.toNat_natCast]
       refine⟨fun hp4 => ?_,fun hp4 => ?_⟩
       · simp only[decide_eq_true_eq]at hp4
         have hkn:k3<n:=by omega
         have K1:IntKind.i64.wrap ((k3:Int)+i2)=((i2+k3:Nat):Int):=by rw[i64w (by omega) (by omega)]; omega
         simp only[K1,Int.toNat_natCast]
         have gk:=(hw7.le (View.le_trans l8 (View.le_trans l10 l11))).get (i:=(k3:Nat)) (by omega) (by omega)
         simp only[Int.toNat_natCast,Nat.mul_one]at gk
         refine⟨⟨by omega,by omega⟩,_,wv_get (by omega),⟨by omega,by omega,hws⟩,_,gk,⟨by omega,by omega⟩,by rw[wv_length]; omega,?_⟩
         obtain⟨low,c,e1,e2,hB'⟩:=hB.step hkn
         rw[e1,e2,wv_set,i64w (n:=(k3:Int)+1) (by omega) (by omega)]
         exact⟨⟨w',i2,g,k3+1,c,_,qd3,u03,l3,rfl,rfl,hg3,hB'⟩,by omega⟩
       · simp only[decide_eq_false_iff_not]at hp4
         obtain rfl:n=k3:=by omega
         refine⟨⟨by omega,by omega⟩,_,wv_get (by omega),⟨by omega,by omega⟩,by rw[wv_length]; omega,⟨by omega,by omega⟩,by rw[wv_length]; omega,?_⟩
         obtain⟨low,e1,hD'⟩:=hB.last
         rw[u32w (n:=((g-1:Nat):Int)) (by omega) (by omega),e1,wv_set,wv_set]
         exact⟨⟨w',i2,_,_,rfl,hw7.le (View.le_trans l8 (View.le_trans l10 l11)),rfl,hD'⟩,hme⟩
     ·
       have hD':=hb0 (fun h=>by rw[h]at hn1; simp at hn1)
       rw[u32w (n:=(g:Int)) (by omega) (by omega),wv_set]
       exact⟨⟨by omega,by omega⟩,by rw[wv_length]; omega,⟨w',i2,_,_,rfl,hw7.le (View.le_trans l8 l10),rfl,hD'⟩,hme⟩
 ·
   simp only[ge_iff_le,decide_eq_false_iff_not]at hp
   obtain rfl:j=0:=by omega
   have heq:=hD.eq
   have hlt0:=hD.lt
   rw[Nat.zero_add,Nat.pow_zero,Nat.one_mul,Nat.sub_zero]at heq
   obtain⟨hq1,hr1⟩:=div_last hX hvN hb0 heq hlt0
   have hwq:Words V12 (Sl.mk (some (Addr.mk b1 0 none)) (m-n) (m-n)) qd:=Words.of_block hb1 (by omega) (Nat.le_refl _) hD.wq
   have hwr:Words V13 (Sl.mk (some (Addr.mk b2 0 none)) m m) u:=Words.of_block hb2 (by omega) (Nat.le_refl _) hwu
   refine⟨⟨by omega,by omega,by omega⟩,(ref1_trim_spec (Words.le l13 hwq) (by omega)).mono fun v V14 l14 ⟨q,hv,hq⟩=>⟨q,hv,?_⟩⟩
   have hwr2:Words V14 (Sl.mk (some (Addr.mk b2 0 none)) n m) (u.take n):=Words.le l14 (Words.pre hwr (k:=n) (c:=m) (by omega) (by omega))
   have hl50:(u.take n).length≤2^50:=by rw[List.length_take]; omega
   have hz:Int.toNat 0=0:=rfl
   have hm0:¬m=0:=by omega
   have hadd:Option.map (fun q=>Addr.add q 0) (some (Addr.mk b2 0 none))=some (Addr.mk b2 0 none):=by simp[Addr.add]
   simp only[hz,hm0,if_false,Nat.zero_mul,hadd,Nat.sub_zero]
   have htr:=ref1_trim_spec hwr2 hl50
   refine htr.mono fun v V15 l15 ⟨r,hv,hr⟩=>⟨r,hv,?_⟩
   rw[←seg_take]at hr
   have hrw:wn (seg u 0 n)≤2^44:=by
    have:=wn_le_of_lt (seg_lt hwu 0 n)
    omega
   refine(ref1_NatShr_spec hr hrw (by omega)).mono fun v V16 l16 ⟨r2,hv,hr2⟩=>⟨r2,hv,q,r2,rfl,?_,?_⟩
   · rw[←hq1,seg_all (by omega)]; exact hq.le (View.le_trans l15 l16)
   · rw[←hr1]; exact hr2
theorem ref1_NatGcd_spec {V:View} {s t:Sl} {a b:Nat} (hs:NatAt V s a) (ht:NatAt V t b) (ha:wn a≤2^43) (hb:wn b≤2^43) :
 CallV Tryz.prog n_ref1_NatGcd #[s.v,t.v] V fun v V'=>∃r:Sl,v=r.v∧NatAt V' r (Nat.gcd a b):=by
 refine ref1_NatGcd_vc s t V _ (fun _ x V'=>∃a' b',NatAt V' x.t0 a'∧NatAt V' x.t1 b'∧wn a'≤2^43∧wn b'≤2^43∧Nat.gcd a' b'=Nat.gcd a b) (fun _ x V'=>natVal V' x.t1) ⟨⟨a,b,hs,ht,ha,hb,rfl⟩,?_⟩
 rintro⟨x,y⟩ V1 l1 ⟨a',b',hx,hy,wa,wb,hg⟩
 simp only at hx hy ⊢
 have hyl:=hy.len
 refine⟨fun hp => ?_,fun hp => ?_⟩
 · simp only[gt_iff_lt,decide_eq_true_eq]at hp
   have hb0:b'≠0:=fun e=>by rw[←hy.len_zero]at e; omega
   refine(ref1_NatDiv_spec hx hy wa hb0).mono fun v V2 l2 ⟨q,r,hv,hq,hr⟩=>⟨q,r,hv,?_⟩
   have hlt:a'%b'<b':=Nat.mod_lt _ (by omega)
   have hwr:wn (a'%b')≤wn b':=wn_mono (Nat.le_of_lt hlt)
   refine⟨⟨b',a'%b',hy.le l2,hr,wb,by omega,?_⟩,?_⟩
   · rw[Nat.gcd_comm,←Nat.gcd_rec,Nat.gcd_comm]; exact hg
   · rw[natVal_eq hr,natVal_eq hy]; exact hlt
 · simp only[gt_iff_lt,decide_eq_false_iff_not]at hp
   have hb0:b'=0:=hy.len_zero.1 (by omega)
   subst hb0
   rw[Nat.gcd_zero_right]at hg
   exact⟨x,rfl,by rw[←hg]; exact hx⟩
theorem ref1_signed_spec {V:View} {s:Sl} {n:Nat} (neg:Bool) (h:NatAt V s n) :
 CallV Tryz.prog n_ref1_signed #[.bool neg,s.v] V fun v V'=>∃r:WhV,v=r.val∧IntAt V' r (if neg=true then -(n:Int)else n):=by
 have hl:=h.len_zero
 refine ref1_signed_vc neg s V _ ⟨fun hn=>⟨_,rfl,?_,?_⟩,fun hn=>⟨_,rfl,?_,?_⟩⟩
 · rw[if_pos hn]; simp only[gt_iff_lt,decide_eq_decide]; omega
 · rw[if_pos hn]; simpa using h
 · rw[if_neg (by simp[hn])]; symm; simp only[decide_eq_false_iff_not]; omega
 · rw[if_neg (by simp[hn])]; simpa using h
theorem ref1_IntOf_spec {V:View} {n:Int} (h0 : -9223372036854775808≤n) (h1:n≤9223372036854775807) :
 CallV Tryz.prog n_ref1_IntOf #[.int .i64 n] V fun v V'=>∃r:WhV,v=r.val∧IntAt V' r n:=by
 refine ref1_IntOf_vc n V _ ⟨fun hn => ?_,fun hn => ?_⟩
 · simp only[decide_eq_true_eq]at hn
   have e:IntKind.u64.wrap (IntKind.i64.wrap (0-n)) = -n:=by
    by_cases hm:n = -9223372036854775808
    · subst hm; decide
    · rw[i64w (by omega) (by omega),u64w (by omega) (by omega)]; omega
   rw[e]
   refine(ref1_NatOf_spec (by omega) (by omega)).mono fun v V1 _ ⟨r,hv,hr⟩=>⟨r,hv,_,rfl,by simp[hn],?_⟩
   have e2:n.natAbs=(-n).toNat:=by omega
   rw[e2]; exact hr
 · simp only[decide_eq_false_iff_not]at hn
   rw[u64w (by omega) (by omega)]
   refine(ref1_NatOf_spec (by omega) (by omega)).mono fun v V1 _ ⟨r,hv,hr⟩=>⟨r,hv,_,rfl,by simp[hn],?_⟩
   have e2:n.natAbs=n.toNat:=by omega
   rw[e2]; exact hr
theorem ref1_IntNeg_spec {V:View} {x:WhV} {a:Int} (h:IntAt V x a) :
 CallV Tryz.prog n_ref1_IntNeg #[x.val] V fun v V'=>∃r:WhV,v=r.val∧IntAt V' r (-a):=by
 refine ref1_IntNeg_vc x V _ ((ref1_signed_spec (!x.neg) h.2).mono fun v V1 _ ⟨r,hv,hr⟩=>⟨r,hv,r,rfl,?_⟩)
 have e:(if(!x.neg)=true then -(a.natAbs:Int)else(a.natAbs:Int)) = -a:=by
  rw[h.1]; simp only[Bool.not_eq_true',decide_eq_false_iff_not]; split<;>omega
 rw[e]at hr; exact hr
theorem ref1_IntAdd_spec {V:View} {x y:WhV} {a b:Int} (hx:IntAt V x a) (hy:IntAt V y b) (ha:wn a.natAbs≤2^43) (hb:wn b.natAbs≤2^43) :
 CallV Tryz.prog n_ref1_IntAdd #[x.val,y.val] V fun v V'=>∃r:WhV,v=r.val∧IntAt V' r (a+b):=by
 have h1:=hx.1
 have h2:=hy.1
 refine ref1_IntAdd_vc x y V _ ⟨fun hs => ?_,fun hs => ?_⟩
 · refine(ref1_NatAdd_spec hx.2 hy.2 (by omega) (by omega)).mono fun v V1 l1 ⟨r,hv,hr⟩=>⟨r,hv,?_⟩
   refine(ref1_signed_spec x.neg hr).mono fun v V2 _ ⟨w,hv,hw⟩=>⟨w,hv,w,rfl,?_⟩
   have e:(if x.neg=true then -((a.natAbs+b.natAbs:Nat):Int)else((a.natAbs+b.natAbs:Nat):Int))=a+b:=by
    rw[h1,h2]at hs; rw[h1]
    by_cases p:a<0<;>by_cases q:b<0<;>simp[p,q]at hs ⊢<;>omega
   rw[e]at hw; exact hw
 · refine(ref1_NatCmp_spec hx.2 hy.2 (by omega)).mono fun v V1 l1 hv=>⟨_,hv,fun hc => ?_,fun hc => ?_⟩
   · have hc:b.natAbs≤a.natAbs:=by
       rcases Nat.lt_or_ge a.natAbs b.natAbs with h|h
       · rw[if_pos h]at hc; simp at hc
       · exact h
     refine(ref1_NatSub_spec (hx.2.le l1) (hy.2.le l1) (by omega) hc).mono fun v V2 l2 ⟨r,hv,hr⟩=>⟨r,hv,?_⟩
     refine(ref1_signed_spec x.neg hr).mono fun v V3 _ ⟨w,hv,hw⟩=>⟨w,hv,w,rfl,?_⟩
     have e:(if x.neg=true then -((a.natAbs-b.natAbs:Nat):Int)else((a.natAbs-b.natAbs:Nat):Int))=a+b:=by
      rw[h1,h2]at hs; rw[h1]
      by_cases p:a<0<;>by_cases q:b<0<;>simp[p,q]at hs ⊢<;>omega
     rw[e]at hw; exact hw
   · have hc:a.natAbs≤b.natAbs:=by
       rcases Nat.lt_or_ge b.natAbs a.natAbs with h|h
       · rw[if_neg (by omega),if_neg (by omega)]at hc; simp at hc
       · exact h
     refine(ref1_NatSub_spec (hy.2.le l1) (hx.2.le l1) (by omega) hc).mono fun v V2 l2 ⟨r,hv,hr⟩=>⟨r,hv,?_⟩
     refine(ref1_signed_spec y.neg hr).mono fun v V3 _ ⟨w,hv,hw⟩=>⟨w,hv,w,rfl,?_⟩
     have e:(if y.neg=true then -((b.natAbs-a.natAbs:Nat):Int)else((b.natAbs-a.natAbs:Nat):Int))=a+b:=by
      rw[h1,h2]at hs; rw[h2]
      by_cases p:a<0<;>by_cases q:b<0<;>simp[p,q]at hs ⊢<;>omega
     rw[e]at hw; exact hw
theorem ref1_IntSub_spec {V:View} {x y:WhV} {a b:Int} (hx:IntAt V x a) (hy:IntAt V y b) (ha:wn a.natAbs≤2^43) (hb:wn b.natAbs≤2^43) :
 CallV Tryz.prog n_ref1_IntSub #[x.val,y.val] V fun v V'=>∃r:WhV,v=r.val∧IntAt V' r (a-b):=by
 refine ref1_IntSub_vc x y V _ ((ref1_IntNeg_spec hy).mono fun v V1 l1 ⟨r,hv,hr⟩=>⟨r,hv,?_⟩)
 rw[Int.sub_eq_add_neg]
 exact(ref1_IntAdd_spec (hx.le l1) hr ha (by rw[Int.natAbs_neg]; exact hb)).mono fun v V2 _ ⟨w,hv,hw⟩=>⟨w,hv,w,rfl,hw⟩
theorem ref1_IntMul_spec {V:View} {x y:WhV} {a b:Int} (hx:IntAt V x a) (hy:IntAt V y b) (ha:wn a.natAbs≤2^43) (hb:wn b.natAbs≤2^43) :
 CallV Tryz.prog n_ref1_IntMul #[x.val,y.val] V fun v V'=>∃r:WhV,v=r.val∧IntAt V' r (a*b):=by
 refine ref1_IntMul_vc x y V _ ((ref1_NatMul_spec hx.2 hy.2 (by omega) (by omega)).mono fun v V1 l1 ⟨r,hv,hr⟩=>⟨r,hv,?_⟩)
 refine(ref1_signed_spec (!(x.neg==y.neg)) hr).mono fun v V2 _ ⟨w,hv,hw⟩=>⟨w,hv,w,rfl,?_⟩
 have e:(if(!(x.neg==y.neg))=true then -((a.natAbs*b.natAbs:Nat):Int)else((a.natAbs*b.natAbs:Nat):Int))=a*b:=by
  rw[sign_mul _ _ a b rfl rfl,hx.1,hy.1]
  by_cases p:a<0<;>by_cases q:b<0<;>simp[p,q]
 rw[e]at hw; exact hw
theorem dig_one:dig 1=[1]:=by rw[dig_pos (by omega)]; simp[dig_zero]
theorem IntAt.ofNat {V:View} {s:Sl} {n:Nat} (h:NatAt V s n):IntAt V (WhV.mk false s) (n:Int):=⟨by simp,h⟩
theorem ref1_Make_spec {V:View} {x y:WhV} {s:Sl} {z:Cq} {a b:Int} {d:Nat} (hx:IntAt V x a) (hy:IntAt V y b) (hs:NatAt V s d) (hz:Rep z a b d) (ha:wn a.natAbs≤2^43) (hb:wn b.natAbs≤2^43) (hd:wn d≤2^43) :
 CallV Tryz.prog n_ref1_Make #[x.val,y.val,s.v] V fun v V'=>∃r:NumV,v=r.val∧QAt V' r z:=by
 obtain⟨e1,e2,e3⟩:=hz.eqs
 have hp:=gcd3_pos a b hz.pos
 have d1:=gcd3_dvd1 a b d
 have d2:=gcd3_dvd2 a b d
 have d3:=gcd3_dvd3 a b d
 refine ref1_Make_vc x y s V _ ((ref1_NatGcd_spec hx.2 hy.2 ha hb).mono fun v V1 l1 ⟨r1,hv,h1⟩=>⟨r1,hv,?_⟩)
 have hw1:wn (Nat.gcd a.natAbs b.natAbs)≤2^43:=by
  rcases Nat.eq_zero_or_pos a.natAbs with h|h
  · rw[h,Nat.gcd_zero_left]; exact hb
  · exact Nat.le_trans (wn_mono (Nat.le_of_dvd h (Nat.gcd_dvd_left _ _))) ha
 refine(ref1_NatGcd_spec h1 (hs.le l1) hw1 hd).mono fun v V2 l2 ⟨r2,hv,h2⟩=>⟨r2,hv,?_⟩
 have hg:Nat.gcd (Nat.gcd a.natAbs b.natAbs) d=gcd3 a b d:=rfl
 rw[hg]at h2
 have l02:=View.le_trans l1 l2
 have h2l:=h2.len
 have many:gcd3 a b d≠1→CallV Tryz.prog n_ref1_NatDiv #[x.mag.v,r2.v] V2 fun v V8=>∃(r11:Sl) (r12:Sl),v = .tuple #[r11.v,r12.v] ∧
  CallV Tryz.prog n_ref1_NatDiv #[y.mag.v,r2.v] V8 fun v V9=>∃(r13:Sl) (r14:Sl),v = .tuple #[r13.v,r14.v] ∧
  CallV Tryz.prog n_ref1_NatDiv #[s.v,r2.v] V9 fun v V10=>∃(r15:Sl) (r16:Sl),v = .tuple #[r15.v,r16.v] ∧
  CallV Tryz.prog n_ref1_signed #[.bool x.neg,r11.v] V10 fun v V11=>∃r17:WhV,v=r17.val ∧
  CallV Tryz.prog n_ref1_signed #[.bool y.neg,r13.v] V11 fun v V12=>∃r18:WhV,v=r18.val∧∃r:NumV,(NumV.mk r17 r18 r15).val=r.val∧QAt V12 r z:=by
  intro _
  refine(ref1_NatDiv_spec (hx.2.le l02) h2 ha (by omega)).mono fun v V4 l4 ⟨q1,m1,hv,hq1,_⟩=>⟨q1,m1,hv,?_⟩
  refine(ref1_NatDiv_spec (hy.2.le (View.le_trans l02 l4)) (h2.le l4) hb (by omega)).mono fun v V5 l5 ⟨q2,m2,hv,hq2,_⟩=>⟨q2,m2,hv,?_⟩
  have l45:=View.le_trans l4 l5
  refine(ref1_NatDiv_spec (hs.le (View.le_trans l02 l45)) (h2.le l45) hd (by omega)).mono fun v V6 l6 ⟨q3,m3,hv,hq3,_⟩=>⟨q3,m3,hv,?_⟩
  refine(ref1_signed_spec x.neg (hq1.le (View.le_trans l5 l6))).mono fun v V7 l7 ⟨w1,hv,hw1⟩=>⟨w1,hv,?_⟩
  refine(ref1_signed_spec y.neg (hq2.le (View.le_trans l6 l7))).mono fun v V8 l8 ⟨w2,hv,hw2⟩=>⟨w2,hv,_,rfl,?_,?_,?_⟩
  · rw[e1]
    have e:(if x.neg=true then -((a.natAbs / gcd3 a b d:Nat):Int)else((a.natAbs / gcd3 a b d:Nat):Int))=a / (gcd3 a b d:Nat):=by
     have k1:=natAbs_div d1
     have k2:=div_lt_zero d1 hp
     rw[←k1,hx.1]
     have k3:(a / (gcd3 a b d:Nat)<0)↔a<0:=by simpa using k2
     simp only[decide_eq_true_eq]
     split<;>omega
    rw[e]at hw1; exact hw1.le l8
  · rw[e2]
    have e:(if y.neg=true then -((b.natAbs / gcd3 a b d:Nat):Int)else((b.natAbs / gcd3 a b d:Nat):Int))=b / (gcd3 a b d:Nat):=by
     have k1:=natAbs_div d2
     have k2:=div_lt_zero d2 hp
     rw[←k1,hy.1]
     have k3:(b / (gcd3 a b d:Nat)<0)↔b<0:=by simpa using k2
     simp only[decide_eq_true_eq]
     split<;>omega
    rw[e]at hw2; exact hw2
  · rw[e3]; exact hq3.le (View.le_trans l7 l8)
 refine⟨fun hn => ?_,fun hn=>⟨fun h=>absurd h (by simp),fun _ => ?_⟩⟩
 · have hn:r2.len=1:=by have:(r2.len:Int)=1:=(by simpa using hn); omega
   refine⟨⟨by omega,by omega,h2.isSome (by omega)⟩,_,h2.get (by omega) (by omega),fun hw => ?_,fun hw => ?_⟩
   · have hw:(dig (gcd3 a b d)).getD 0 0=1:=by have:(((dig (gcd3 a b d)).getD 0 0:Nat):Int)=1:=of_decide_eq_true (by rw[←hw]; rfl); omega
     have hg1:gcd3 a b d=1:=by
      rw[hn]at h2l
      have h3:=wval_dig (gcd3 a b d)
      obtain⟨w,hw'⟩:∃w,dig (gcd3 a b d)=[w]:=List.length_eq_one_iff.1 h2l.symm
      rw[hw']at hw h3
      simp[wval]at hw h3
      omega
     rw[hg1]at e1 e2 e3
     simp only[Int.natCast_one,Int.ediv_one]at e1 e2
     rw[Nat.div_one]at e3
     exact⟨_,rfl,by rw[e1]; exact hx.le l02,by rw[e2]; exact hy.le l02,by rw[e3]; exact hs.le l02⟩
   · refine many fun h => ?_
     rw[h,dig_one]at hw; simp at hw
 · refine many fun h => ?_
   rw[h,dig_one]at h2l
   rw[h2l]at hn; simp at hn
theorem ref1_New_spec {V:View} {p q d:Int} (p0 : -9223372036854775808≤p) (p1:p≤9223372036854775807) (q0 : -9223372036854775808≤q) (q1:q≤9223372036854775807) (d0 : -9223372036854775808≤d) (d1:d≤9223372036854775807) (hd:d≠0) :
 CallV Tryz.prog n_ref1_New #[.int .i64 p,.int .i64 q,.int .i64 d] V fun v V'=>∃r:NumV,v = .tuple #[r.val,.int .i64 0]∧QAt V' r ⟨(p:Rat) / (d:Rat),(q:Rat) / (d:Rat)⟩:=by
 refine ref1_New_vc p q d V _ ⟨fun h => ?_,fun _ => ?_⟩
 · exact absurd (by simpa using h) hd
 refine(ref1_IntOf_spec d0 d1).mono fun v V1 l1 ⟨c,hv,hc⟩=>⟨c,hv,?_⟩
 refine(ref1_IntOf_spec p0 p1).mono fun v V2 l2 ⟨a,hv,ha⟩=>⟨a,hv,?_⟩
 refine(ref1_IntOf_spec q0 q1).mono fun v V3 l3 ⟨b,hv,hb⟩=>⟨b,hv,fun hn => ?_,fun hn => ?_⟩
 · have hneg:d<0:=by have:=hc.1; rw[hn]at this; simpa using this.symm
   refine(ref1_IntNeg_spec (ha.le l3)).mono fun v V4 l4 ⟨a',hv,ha'⟩=>⟨a',hv,?_⟩
   refine(ref1_IntNeg_spec (hb.le l4)).mono fun v V5 l5 ⟨b',hv,hb'⟩=>⟨b',hv,?_⟩
   refine(ref1_Make_spec (ha'.le l5) hb' (hc.2.le (View.le_trans l2 (View.le_trans l3 (View.le_trans l4 l5)))) ?_ (wn64 (by omega)) (wn64 (by omega)) (wn64 (by omega))).mono fun v V6 l6 ⟨r,hv,hr⟩=>⟨r,hv,r,rfl,hr⟩
   have e:((d.natAbs:Nat):Rat) = -(d:Rat):=by
    have:(d.natAbs:Int) = -d:=by omega
    rw[←Rat.intCast_natCast,this]; push_cast; rfl
   refine⟨by omega,?_,?_⟩<;>(simp only[e]; push_cast; rw[Rat.div_def,Rat.div_def]; grind)
 · have hpos:¬d<0:=by have:=hc.1; rw[hn]at this; simpa using this.symm
   refine(ref1_Make_spec (ha.le l3) hb (hc.2.le (View.le_trans l2 l3)) ?_ (wn64 (by omega)) (wn64 (by omega)) (wn64 (by omega))).mono fun v V6 l6 ⟨r,hv,hr⟩=>⟨r,hv,r,rfl,hr⟩
   have e:((d.natAbs:Nat):Rat)=(d:Rat):=by
    have:(d.natAbs:Int)=d:=by omega
    rw[←Rat.intCast_natCast,this]
   refine⟨by omega,?_,?_⟩<;>simp only[e]
theorem ref1_Add_spec {V:View} {x y:NumV} {z w:Cq} (hx:QAt V x z) (hy:QAt V y w) (hz:z.sz≤2^40) (hw:w.sz≤2^40) :
 CallV Tryz.prog n_ref1_Add #[x.val,y.val] V fun v V'=>∃r:NumV,v=r.val∧QAt V' r (z+w):=by
 have zA:=Cq.wA hz; have zB:=Cq.wB hz; have zD:=Cq.wD hz
 have wA:=Cq.wA hw; have wB:=Cq.wB hw; have wD:=Cq.wD hw
 have zD':wn (z.D:Int).natAbs≤2^35:=zD
 have wD':wn (w.D:Int).natAbs≤2^35:=wD
 have s1:=wn_muli zA wD'; have s2:=wn_muli wA zD'; have s3:=wn_muli zB wD'; have s4:=wn_muli wB zD'
 have s5:=wn_addi s1 s2; have s6:=wn_addi s3 s4
 have s7:=wn_mul_le z.D w.D
 refine ref1_Add_vc x y V _ ((ref1_IntMul_spec hx.re (IntAt.ofNat hy.under) (by omega) (by omega)).mono fun v V1 l1 ⟨r1,hv,h1⟩=>⟨r1,hv,?_⟩)
 replace hx:=hx.le l1; replace hy:=hy.le l1
 refine(ref1_IntMul_spec hy.re (IntAt.ofNat hx.under) (by omega) (by omega)).mono fun v V2 l2 ⟨r2,hv,h2⟩=>⟨r2,hv,?_⟩
 replace hx:=hx.le l2; replace hy:=hy.le l2; replace h1:=h1.le l2
 refine(ref1_IntAdd_spec h1 h2 (by omega) (by omega)).mono fun v V3 l3 ⟨r3,hv,h3⟩=>⟨r3,hv,?_⟩
 replace hx:=hx.le l3; replace hy:=hy.le l3
 refine(ref1_IntMul_spec hx.im (IntAt.ofNat hy.under) (by omega) (by omega)).mono fun v V4 l4 ⟨r4,hv,h4⟩=>⟨r4,hv,?_⟩
 replace hx:=hx.le l4; replace hy:=hy.le l4; replace h3:=h3.le l4
 refine(ref1_IntMul_spec hy.im (IntAt.ofNat hx.under) (by omega) (by omega)).mono fun v V5 l5 ⟨r5,hv,h5⟩=>⟨r5,hv,?_⟩
 replace hx:=hx.le l5; replace hy:=hy.le l5; replace h3:=h3.le l5; replace h4:=h4.le l5
 refine(ref1_IntAdd_spec h4 h5 (by omega) (by omega)).mono fun v V6 l6 ⟨r6,hv,h6⟩=>⟨r6,hv,?_⟩
 replace hx:=hx.le l6; replace hy:=hy.le l6; replace h3:=h3.le l6
 refine(ref1_NatMul_spec hx.under hy.under (by omega) (by omega)).mono fun v V7 l7 ⟨r7,hv,h7⟩=>⟨r7,hv,?_⟩
 exact(ref1_Make_spec (h3.le l7) (h6.le l7) h7 (z.canon.rep.add w.canon.rep) (by omega) (by omega) (by omega)).mono fun v V10 _ ⟨r,hv,hr⟩=>⟨r,hv,r,rfl,hr⟩
theorem ref1_Neg_spec {V:View} {x:NumV} {z:Cq} (hx:QAt V x z):CallV Tryz.prog n_ref1_Neg #[x.val] V fun v V'=>∃r:NumV,v=r.val∧QAt V' r (-z):=by
 obtain⟨e1,e2,e3⟩:=z.neg_eqs
 refine ref1_Neg_vc x V _ ((ref1_IntNeg_spec hx.re).mono fun v V1 l1 ⟨r1,hv,h1⟩=>⟨r1,hv,?_⟩)
 exact(ref1_IntNeg_spec (hx.im.le l1)).mono fun v V2 l2 ⟨r2,hv,h2⟩=>⟨r2,hv,_,rfl,by rw[e1]; exact h1.le l2,by rw[e2]; exact h2,by rw[e3]; exact hx.under.le (View.le_trans l1 l2)⟩
theorem ref1_Conj_spec {V:View} {x:NumV} {z:Cq} (hx:QAt V x z):CallV Tryz.prog n_ref1_Conj #[x.val] V fun v V'=>∃r:NumV,v=r.val∧QAt V' r z.conj:=by
 obtain⟨e1,e2,e3⟩:=z.conj_eqs
 exact ref1_Conj_vc x V _ ((ref1_IntNeg_spec hx.im).mono fun v V1 l1 ⟨r1,hv,h1⟩=>⟨r1,hv,_,rfl,by rw[e1]; exact hx.re.le l1,by rw[e2]; exact h1,by rw[e3]; exact hx.under.le l1⟩)
theorem ref1_Sub_spec {V:View} {x y:NumV} {z w:Cq} (hx:QAt V x z) (hy:QAt V y w) (hz:z.sz≤2^40) (hw:w.sz≤2^40) :
 CallV Tryz.prog n_ref1_Sub #[x.val,y.val] V fun v V'=>∃r:NumV,v=r.val∧QAt V' r (z-w):=by
 refine ref1_Sub_vc x y V _ ((ref1_Neg_spec hy).mono fun v V1 l1 ⟨r1,hv,h1⟩=>⟨r1,hv,?_⟩)
 rw[Cq.sub_eq]
 exact(ref1_Add_spec (hx.le l1) h1 hz (by rw[Cq.sz_neg]; exact hw)).mono fun v V2 _ ⟨r,hv,hr⟩=>⟨r,hv,r,rfl,hr⟩
theorem ref1_Mul_spec {V:View} {x y:NumV} {z w:Cq} (hx:QAt V x z) (hy:QAt V y w) (hz:z.sz≤2^40) (hw:w.sz≤2^40) :
 CallV Tryz.prog n_ref1_Mul #[x.val,y.val] V fun v V'=>∃r:NumV,v=r.val∧QAt V' r (z*w):=by
 have zA:=Cq.wA hz; have zB:=Cq.wB hz; have zD:=Cq.wD hz
 have wA:=Cq.wA hw; have wB:=Cq.wB hw; have wD:=Cq.wD hw
 have s1:=wn_muli zA wA; have s2:=wn_muli zB wB; have s2':=wn_negi s2; have s3:=wn_muli zA wB; have s4:=wn_muli zB wA
 have s5:=wn_addi s1 s2'; have s6:=wn_addi s3 s4
 rw[←Int.sub_eq_add_neg]at s5
 have s7:=wn_mul_le z.D w.D
 refine ref1_Mul_vc x y V _ ((ref1_IntMul_spec hx.re hy.re (by omega) (by omega)).mono fun v V1 l1 ⟨r1,hv,h1⟩=>⟨r1,hv,?_⟩)
 replace hx:=hx.le l1; replace hy:=hy.le l1
 refine(ref1_IntMul_spec hx.im hy.im (by omega) (by omega)).mono fun v V2 l2 ⟨r2,hv,h2⟩=>⟨r2,hv,?_⟩
 replace hx:=hx.le l2; replace hy:=hy.le l2; replace h1:=h1.le l2
 refine(ref1_IntSub_spec h1 h2 (by omega) (by omega)).mono fun v V4 l4 ⟨r4,hv,h4⟩=>⟨r4,hv,?_⟩
 replace hx:=hx.le l4; replace hy:=hy.le l4
 refine(ref1_IntMul_spec hx.re hy.im (by omega) (by omega)).mono fun v V5 l5 ⟨r5,hv,h5⟩=>⟨r5,hv,?_⟩
 replace hx:=hx.le l5; replace hy:=hy.le l5; replace h4:=h4.le l5
 refine(ref1_IntMul_spec hx.im hy.re (by omega) (by omega)).mono fun v V6 l6 ⟨r6,hv,h6⟩=>⟨r6,hv,?_⟩
 replace hx:=hx.le l6; replace hy:=hy.le l6; replace h4:=h4.le l6; replace h5:=h5.le l6
 refine(ref1_IntAdd_spec h5 h6 (by omega) (by omega)).mono fun v V7 l7 ⟨r7,hv,h7⟩=>⟨r7,hv,?_⟩
 replace hx:=hx.le l7; replace hy:=hy.le l7; replace h4:=h4.le l7
 refine(ref1_NatMul_spec hx.under hy.under (by omega) (by omega)).mono fun v V10 l10 ⟨r10,hv,h10⟩=>⟨r10,hv,?_⟩
 exact(ref1_Make_spec (h4.le l10) (h7.le l10) h10 (z.canon.rep.mul w.canon.rep) (by omega) (by omega) (by omega)).mono fun v V11 _ ⟨r,hv,hr⟩=>⟨r,hv,r,rfl,hr⟩
theorem intAt_lenpos {V:View} {x:WhV} {a:Int} (h:IntAt V x a):x.mag.len=0↔a=0:=by
 have:=h.2.len_zero
 rw[this]; omega
theorem slices_Reverse_spec {V:View} {n c:Nat} {w:List Value} {f:Nat→Int} (h1:1≤n) (hn:n≤w.length) (hw:n≤2^60) (hf:∀p,p<n→w[p]?=some (.int .u8 (f p))) :
 CallD Tryz.prog n_slices_Reverse___byte_byte_ (fun b=>(Value.slice (some ⟨b,0,none⟩) n c::[]:List Value)) T_u8 w V fun v l _=>v = .tuple #[]∧l.length=w.length∧l.take n=(w.take n).reverse:=by
 refine slices_Reverse___byte_byte__vc 0 n c w V _ (fun _ x _=>∃i j:Nat,x.t2=(i:Int)∧x.t3=(j:Int)∧j+i=n-1∧(i≤j+1)∧x.o0=revI w n i) (fun _ x _=>(x.t3-x.t2+2).toNat) ⟨⟨0,n-1,rfl,?_,by omega,by omega,(revI_zero w n).symm⟩,?_⟩
 · show IntKind.i64.wrap ((n:Int)-1)=_
   rw[i64w (by omega) (by omega)]; omega
 rintro⟨t,u,o⟩ V1 l1 ⟨i,j,rfl,rfl,hij,hi,rfl⟩
 have gd:∀p,p<n→w.getD p undef = .int .u8 (f p):=fun p hp=>by simp[List.getD,hf p hp]
 dsimp only
 refine⟨fun hlt => ?_,fun hge => ?_⟩
 · simp only[decide_eq_true_eq]at hlt
   have hij':i<j:=by omega
   rw[i64w (n:=(i:Int)+1) (by omega) (by omega),i64w (n:=(j:Int)-1) (by omega) (by omega)]
   simp only[Int.toNat_natCast,Nat.mul_one,Nat.zero_add]
   refine⟨⟨by omega,by omega⟩,f j,?_,⟨by omega,by omega⟩,f i,?_,⟨by omega,by omega⟩,by rw[revI_length]; omega,⟨by omega,by omega⟩,by rw[List.length_set,revI_length]; omega,⟨i+1,j-1,by omega,by omega,by omega,by omega,?_⟩,by omega⟩
   · rw[revI_mid (by omega) (by omega) (by omega),gd j (by omega)]
   · rw[revI_mid (by omega) (by omega) (by omega),gd i (by omega)]
   · have:=revI_step (o:=w) hn hij hij'
     rw[gd i (by omega),gd j (by omega)]at this
     exact this
 · simp only[decide_eq_false_iff_not]at hge
   exact⟨rfl,revI_length _ _ _,revI_end hn (by omega)⟩
theorem digC_get {l:List Nat} {p:Nat} (h:p<l.length):(digC l)[p]?=some (.int .u8 ((48+l.getD p 0:Nat):Int)):=by simp[digC,h]
theorem u8dig {r:Nat}:IntKind.u8.wrap (IntKind.u32.wrap (48+(Int.tmod (r:Int) 10)))=((48+r%10:Nat):Int):=by
 rw[show Int.tmod (r:Int) 10=((r%10:Nat):Int)from(Int.ofNat_tmod r 10).symm,u32w (by omega) (by omega),IntWalk.u8_in _ ⟨by omega,by omega⟩]; omega
theorem u32q {r:Nat} (h:r<4294967296):IntKind.u32.wrap (Int.tdiv (r:Int) 10)=((r / 10:Nat):Int):=by
 rw[show Int.tdiv (r:Int) 10=((r / 10:Nat):Int)from(Int.ofNat_tdiv r 10).symm,u32w (by omega) (by omega)]
theorem oneC (n:Int):∀v∈[Value.int .u8 n],Value.oneCell' v=true:=by intro v hv; simp at hv; subst hv; rfl
theorem nat_digits_spec {V:View} {s:Sl} {N:Nat} (h:NatAt V s N) (hb:bl N≤2^42) :
 CallV Tryz.prog n_nat_digits #[s.v] V fun v _=>v = .string (decS N):=by
 have hz:=h.len_zero
 have hlow:=low_length N
 refine nat_digits_vc s V _
  (fun _ x V'=>∃(X:Nat) (dl:List Nat),NatAt V' x.t0 X∧X≤N∧LstOk 1 x.t3l x.t3c x.o3 (digC dl)∧x.t3l=dl.length∧low N=dl++low X) (fun _ x V'=>natVal V' x.t0)
  (fun c x V'=>∃(q r k:Nat) (dl:List Nat),NatAt V' c.t0 q∧q≤N∧x.t4=(r:Int)∧x.t5=(k:Int)∧k≤9∧r<10^(9-k)∧LstOk 1 x.t3l x.t3c x.o3 (digC dl)∧x.t3l=dl.length∧low N=dl++low (q*10^(9-k)+r)) (fun _ x _=>(9-x.t5).toNat)
  ⟨fun h0 => ?_,fun h0=>⟨⟨N,[],h,Nat.le_refl _,LstOk.nil,rfl,rfl⟩,?_⟩⟩
 · have:s.len=0:=by have:(s.len:Int)=0:=(by simpa using h0); omega
   rw[hz.1 this,decS_zero]
 have hN0:N≠0:=by
  intro e; rw[←hz]at e; rw[e]at h0; simp at h0
 rintro⟨t0,n,c,o⟩ V1 l1 ⟨X,dl,hX,hXN,hlo,hn,hval⟩
 dsimp only at hX hlo hn ⊢
 have hXz:=hX.len_zero
 refine⟨fun hp => ?_,fun hp => ?_⟩
 · simp only[gt_iff_lt,decide_eq_true_eq]at hp
   have hX0:X≠0:=fun e=>by rw[←hXz]at e; omega
   have hbX:bl X≤2^42:=Nat.le_trans (bl_mono hXN) hb
   refine(nat_short_spec (d:=1000000000) hX (wn_bl (by omega)) (by omega) (by omega)).mono fun v V2 l2 ⟨r1,hv,h1⟩=>⟨r1,_,hv,⟨X / 1000000000,X%1000000000,0,dl,h1,Nat.le_trans (Nat.div_le_self _ _) hXN,rfl,rfl,by omega,?_,hlo,hn,?_⟩,?_⟩
   · exact Nat.mod_lt _ (by omega)
   · have:X / 1000000000*10^(9-0)+X%1000000000=X:=by
       rw[show(10:Nat)^(9-0)=1000000000 by decide]; omega
     rw[this]; exact hval
   rintro⟨n3,c3,r3,k3,o3⟩ V3 l3 ⟨q,r,k,dl3,hq,hqN,rfl,rfl,hk,hr,hlo3,hn3,hval3⟩
   dsimp only at hq hlo3 hn3 ⊢
   have hqe:=hq.inj (h1.le l3)
   have hlt9:r<1000000000:=Nat.lt_of_lt_of_le hr (by
    have:(10:Nat)^(9-k)≤10^9:=Nat.pow_le_pow_right (by omega) (by omega)
    exact Nat.le_trans this (by decide))
   have hl3:dl3.length≤2^42:=by
    have:=congrArg List.length hval3
    rw[List.length_append]at this; omega
   have hqz:=hq.len_zero
   have step:(q≠0∨r≠0)→k<9→∀(b1:Nat) (V4:View),V3.le V4→View.Fin V4→V4 b1=some #[.int .u8 (IntKind.u8.wrap (IntKind.u32.wrap (48+(Int.tmod (r:Int) 10))))] →
    ∃(l1:List Value) (l2:List Value),LstOk 1 n3 c3 o3 l1∧View.has V4 (some (Addr.mk b1 0 none)) l2∧List.length l2=1*1∧(∀v∈l2,Value.oneCell' v=true)∧n3+1≤maxLen∧(n3+1)*1≤140737488355328 ∧
    ∀(c1:Nat) (l3:List Value),LstOk 1 (n3+1) c1 l3 (l1++l2) →
    (∃(q' r' k':Nat) (dl:List Nat),NatAt V4 r1 q'∧q'≤N∧(IntKind.u32.wrap (Int.tdiv (r:Int) 10))=(r':Int)∧(IntKind.i64.wrap ((k:Int)+1))=(k':Int)∧k'≤9∧r'<10^(9-k')∧LstOk 1 (n3+1) c1 l3 (digC dl)∧n3+1=dl.length∧low N=dl++low (q'*10^(9-k')+r'))∧(9-(IntKind.i64.wrap ((k:Int)+1))).toNat<(9-(k:Int)).toNat:=by
    intro hne hk9 b1 V4 l4 _ hb1
    rw[u8dig]at hb1
    have hrr:r / 10<10^(9-(k+1)):=by
     have:10^(9-k)=10^(9-(k+1))*10:=by rw[←Nat.pow_succ]; congr 1; omega
     omega
    have hst:=low_step (q:=q) (r:=r) (k:=9-(k+1)) hne
    rw[show 9-(k+1)+1=9-k by omega]at hst
    refine⟨digC dl3,[.int .u8 ((48+r%10:Nat):Int)],hlo3,has_block hb1,rfl,oneC _,Nat.le_trans (show n3+1≤2^43 by omega) (by decide),by omega,fun c1 l3' hl3'=>⟨⟨q,r / 10,k+1,dl3++[r%10],hq.le l4,hqN,u32q (by omega),by rw[i64w (by omega) (by omega)]; omega,hk9,hrr,?_,by simp[hn3],?_⟩,by rw[i64w (by omega) (by omega)]; omega⟩⟩
    · rw[←digC_append]; exact hl3'
    · rw[hval3,hst]; simp
   have stop:(k=9∨q=0∧r=0)→(∃(X:Nat) (dl:List Nat),NatAt V3 r1 X∧X≤N∧LstOk 1 n3 c3 o3 (digC dl)∧n3=dl.length∧low N=dl++low X)∧natVal V3 r1<natVal V1 t0:=by
    intro hs
    refine⟨⟨q,dl3,hq,hqN,hlo3,hn3,?_⟩,?_⟩
    · rcases hs with rfl|⟨rfl,rfl⟩
      · have:r=0:=by simp at hr; omega
        subst this
        simpa using hval3
      · simpa using hval3
    · rw[natVal_eq hq,natVal_eq hX,hqe]
      omega
   refine⟨fun hk9=>⟨fun hq1=>⟨fun _=>step (.inl ?_) (by have:(k:Int)<9:=(by simpa using hk9); omega),fun h=>absurd h (by simp)⟩,fun hq1=>⟨fun hr1=>step (.inr ?_) (by have:(k:Int)<9:=(by simpa using hk9); omega),fun hr1=>stop (.inr ⟨?_,?_⟩)⟩⟩,fun hk9=>⟨fun h=>absurd h (by simp),fun _=>stop (.inl ?_)⟩⟩
   · simp only[gt_iff_lt,decide_eq_true_eq]at hq1
     intro e; rw[←hqz]at e; omega
   · simp only[gt_iff_lt,decide_eq_true_eq]at hr1; omega
   · simp only[gt_iff_lt,decide_eq_false_iff_not]at hq1; exact hqz.1 (by omega)
   · simp only[gt_iff_lt,decide_eq_false_iff_not]at hr1; omega
   · simp only[decide_eq_false_iff_not]at hk9; omega
 · simp only[gt_iff_lt,decide_eq_false_iff_not]at hp
   have hX0:X=0:=hXz.1 (by omega)
   rw[hX0,low_zero,List.append_nil]at hval
   subst hval
   have hd0:low N≠[]:=by rw[low_pos hN0]; simp
   have hl0:0<(low N).length:=List.length_pos_iff.2 hd0
   have hle:=hlo.le
   have htk:=hlo.take
   have hol:=hlo.len
   rw[Nat.mul_one]at htk hol
   have htl:n≤o.length:=by omega
   have g:∀p,p<n→o[p]?=some (.int .u8 (((48+(low N).getD p 0:Nat):Nat):Int)):=by
    intro p hp'
    rw[←List.getElem?_take_of_lt hp',htk]
    exact digC_get (by omega)
   refine⟨⟨by intro e; rw[e]at htl; simp at htl; omega,⟨by omega,trivial⟩,trivial⟩,?_⟩
   refine(slices_Reverse_spec (c:=c) (f:=fun p=>((48+(low N).getD p 0:Nat):Int)) (by omega) htl (by omega) g).mono fun v l10 V7 l7 ⟨hv,hl10,ht10⟩=>⟨hv,fun b4 V8 l8 hb4 => ?_⟩
   refine⟨decL N,?_,by rw[decL_length hN0]; omega,rfl,rfl⟩
   rw[htk,digC_rev hN0]at ht10
   intro j v hj
   have hjl:j<n:=by
    rcases Nat.lt_or_ge j n with h|h
    · exact h
    · rw[List.getElem?_eq_none (by simp[decL_length hN0]; omega)]at hj; simp at hj
   rw[load_block hb4]
   rw[←ht10,List.getElem?_take_of_lt hjl]at hj
   simpa using hj
def ratQ1 (a:Int) (d:Nat):Cq:=⟨(a:Rat) / (d:Rat),0⟩
theorem ratQ1_rep {a:Int} {d:Nat} (h:d≠0):Rep (ratQ1 a d) a 0 d:=⟨h,rfl,by show(0:Rat)=_; rw[Rat.div_def]; simp⟩
theorem Cq.re_eq (z:Cq):(⟨z.re,0⟩:Cq)=ratQ1 z.A z.D:=Cq.ext' z.canon.rep.re rfl
theorem Cq.im_eq (z:Cq):(⟨z.im,0⟩:Cq)=ratQ1 z.B z.D:=Cq.ext' z.canon.rep.im rfl
theorem ratQ1_eqs {a:Int} {d:Nat} (h:d≠0):(ratQ1 a d).A.natAbs=a.natAbs / Nat.gcd a.natAbs d∧(ratQ1 a d).D=d / Nat.gcd a.natAbs d∧((ratQ1 a d).A<0↔a<0):=by
 obtain⟨e1,e2,e3⟩:=(ratQ1_rep (a:=a) h).eqs
 have hg:gcd3 a 0 d=Nat.gcd a.natAbs d:=by simp[gcd3]
 have d1:=gcd3_dvd1 a 0 d
 have k1:=natAbs_div d1
 have k2:=div_lt_zero d1 (gcd3_pos a 0 h)
 rw[e1,e3,k1,hg]
 rw[hg]at k2
 exact⟨rfl,rfl,by simpa using k2⟩
theorem ratQ1_bl {a:Int} {d:Nat} (h:d≠0):bl (ratQ1 a d).A.natAbs≤bl a.natAbs∧bl (ratQ1 a d).D≤bl d:=by
 obtain⟨e1,e2,_⟩:=ratQ1_eqs (a:=a) h
 rw[e1,e2]
 exact⟨bl_mono (Nat.div_le_self _ _),bl_mono (Nat.div_le_self _ _)⟩
def ratT (a:Int) (d:Nat):ByteArray:=ratS (ratQ1 a d).A (ratQ1 a d).D
theorem num_part_spec {V:View} {x:WhV} {s:Sl} {a:Int} {d:Nat} (hx:IntAt V x a) (hs:NatAt V s d) (hd:d≠0) (ha:bl a.natAbs≤2^41) (hdb:bl d≤2^41) :
 CallV Tryz.prog n_num_part #[x.val,s.v] V fun v _=>v = .string (ratT a d):=by
 obtain⟨b1,b2⟩:=ratQ1_bl (a:=a) hd
 have s1:=decS_size (ratQ1 a d).A.natAbs
 have s2:=decS_size (ratQ1 a d).D
 have hmax:IntKind.i64.max=9223372036854775807:=by decide
 have z1:(ByteArray.mk #[45]).size=1:=rfl
 have z2:(ByteArray.mk #[47]).size=1:=rfl
 refine num_part_vc x s V _ ((num_over_spec hx (IntAt.zero V) hs (ratQ1_rep hd) (wn_bl (by omega)) (by rw[show Int.natAbs 0=0 from rfl,wn_zero]; omega) (wn_bl (by omega))).mono fun v V1 l1 ⟨r,hv,hr⟩=>⟨r,hv,?_⟩)
 have hu:=hr.under
 have hn:=hr.re.1
 have hD:=(ratQ1 a d).D_pos
 refine(nat_digits_spec hr.re.2 (by omega)).mono fun v V2 l2 hv=>⟨_,hv,fun hneg=>⟨by rw[z1,hmax]; omega,fun hul => ?_,fun hul => ?_⟩,fun hneg=>⟨fun hul => ?_,fun hul => ?_⟩⟩
 · simp only[gt_iff_lt,decide_eq_true_eq]at hul
   have h1:(ratQ1 a d).D≠1:=fun e=>by rw[e,if_pos rfl]at hu; have:=hu.len_zero.2 rfl; omega
   rw[if_neg h1]at hu
   refine(nat_digits_spec (hu.le l2) (by omega)).mono fun v V3 l3 hv=>⟨_,hv,by rw[z2,hmax]; omega,by rw[bytes_size,bytes_size,z1,z2,hmax]; omega,?_⟩
   unfold ratT ratS
   rw[hneg]at hn
   have hn:(ratQ1 a d).A<0:=of_decide_eq_true hn.symm
   simp only[hn,h1,if_true,if_false]; rfl
 · simp only[gt_iff_lt,decide_eq_false_iff_not]at hul
   have h1:(ratQ1 a d).D=1:=by
    have:=hu.len_zero.1 (by omega)
    split at this<;>omega
   unfold ratT ratS
   rw[hneg]at hn
   have hn:(ratQ1 a d).A<0:=of_decide_eq_true hn.symm
   simp only[hn,h1,if_true]; rfl
 · simp only[gt_iff_lt,decide_eq_true_eq]at hul
   have h1:(ratQ1 a d).D≠1:=fun e=>by rw[e,if_pos rfl]at hu; have:=hu.len_zero.2 rfl; omega
   rw[if_neg h1]at hu
   refine(nat_digits_spec (hu.le l2) (by omega)).mono fun v V3 l3 hv=>⟨_,hv,by rw[z2,hmax]; omega,by rw[bytes_size,z2,hmax]; omega,?_⟩
   unfold ratT ratS
   rw[hneg]at hn
   have hn:¬(ratQ1 a d).A<0:=of_decide_eq_false hn.symm
   simp only[hn,h1,if_false]; rfl
 · simp only[gt_iff_lt,decide_eq_false_iff_not]at hul
   have h1:(ratQ1 a d).D=1:=by
    have:=hu.len_zero.1 (by omega)
    split at this<;>omega
   unfold ratT ratS
   rw[hneg]at hn
   have hn:¬(ratQ1 a d).A<0:=of_decide_eq_false hn.symm
   simp only[hn,h1,if_false,if_true]
theorem cqS_eq (z:Cq):cqS z=if z.B=0 then ratT z.A z.D else if z.A=0 then ratT z.B z.D++strI else if z.B<0 then ratT z.A z.D++(ratT z.B z.D++strI)else ratT z.A z.D++(strPlus++(ratT z.B z.D++strI)):=by
 unfold cqS
 rw[Cq.re_eq,Cq.im_eq]; rfl
theorem ratT_size {a:Int} {d:Nat} (h:d≠0):(ratT a d).size≤bl a.natAbs+bl d+4:=by
 have h1:=ratS_size (ratQ1 a d).A (ratQ1 a d).D
 obtain⟨b1,b2⟩:=ratQ1_bl (a:=a) h
 unfold ratT; omega
theorem lenT (n:Nat):(((n:Int)==0)=true↔n=0):=by simp
theorem Num_Text_spec {V:View} {x:NumV} {z:Cq} (hx:NumAt V x z) (hz:z.sz≤2^40):CallV Tryz.prog n_Num_Text #[x.val] V fun v _=>v = .string (cqS z):=by
 have zA:=z.szA; have zB:=z.szB; have zD:=z.szD
 have hD:=z.D_pos
 have t1:=ratT_size (a:=z.A) hD
 have t2:=ratT_size (a:=z.B) hD
 have hmax:IntKind.i64.max=9223372036854775807:=by decide
 have z1:(ByteArray.mk #[105]).size=1:=rfl
 have z2:(ByteArray.mk #[43]).size=1:=rfl
 rw[cqS_eq]
 refine Num_Text_vc x V _ ((Num_Real_spec hx).mono fun v V1 l1 hv=>⟨_,hv,fun hr => ?_,fun hr => ?_⟩)
 · have hB:z.B=0:=by
     rw[Cq.B_zero]; simpa using hr
   refine(Num_den_spec (hx.le l1)).mono fun v V2 l2 ⟨r,hv,h2⟩=>⟨r,hv,?_⟩
   refine(num_part_spec (hx.re.le (View.le_trans l1 l2)) h2 hD (by omega) (by omega)).mono fun v V3 l3 hv=>⟨_,hv,?_⟩
   rw[if_pos hB]
 · have hB:¬z.B=0:=by
     rw[Cq.B_zero]; simpa using hr
   rw[if_neg hB]
   refine(Num_den_spec (hx.le l1)).mono fun v V2 l2 ⟨r,hv,h2⟩=>⟨r,hv,?_⟩
   refine(num_part_spec (hx.im.le (View.le_trans l1 l2)) h2 hD (by omega) (by omega)).mono fun v V3 l3 hv=>⟨_,hv,by rw[z1,hmax]; omega,fun hA => ?_,fun hA=>⟨fun hn=>⟨by rw[bytes_size,z1,z2,hmax]; omega,?_⟩,fun hn => ?_⟩⟩
   · have hA:z.A=0:=by
       have:=(lenT _).1 hA
       have:=hx.re.2.len_zero.1 this; omega
     rw[if_pos hA]; rfl
   all_goals
    have hA:¬z.A=0:=by
     intro e
     have:=hx.re.2.len_zero.2 (by omega)
     rw[this]at hA; simp at hA
    rw[if_neg hA]
    have hneg:=hx.im.1
    refine(Num_den_spec (hx.le (View.le_trans l1 (View.le_trans l2 l3)))).mono fun v V4 l4 ⟨r4,hv,h4⟩=>⟨r4,hv,?_⟩
    refine(num_part_spec (hx.re.le (View.le_trans l1 (View.le_trans l2 (View.le_trans l3 l4)))) h4 hD (by omega) (by omega)).mono fun v V5 l5 hv=>⟨_,hv,by simp only[bytes_size,z1,z2]; rw[hmax]; omega,?_⟩
   · have hn:¬z.B<0:=by
       have:x.im.neg=false:=by simpa using hn
       rw[this]at hneg; exact of_decide_eq_false hneg.symm
     rw[if_neg hn]; rfl
   · have hn:z.B<0:=by
       have:x.im.neg=true:=by simpa using hn
       rw[this]at hneg; exact of_decide_eq_true hneg.symm
     rw[if_pos hn]; rfl
theorem ref1_NatText_spec {V:View} {s:Sl} {N:Nat} (h:NatAt V s N) (hb:bl N≤2^42) :
 CallV Tryz.prog n_ref1_NatText #[s.v] V fun v _=>v = .string (decS N):=by
 have hz:=h.len_zero
 have hlow:=low_length N
 refine ref1_NatText_vc s V _
  (fun _ x V'=>∃(X:Nat) (dl:List Nat),NatAt V' x.t0 X∧X≤N∧LstOk 1 x.t3l x.t3c x.o3 (digC dl)∧x.t3l=dl.length∧low N=dl++low X) (fun _ x V'=>natVal V' x.t0)
  (fun c x V'=>∃(q r k:Nat) (dl:List Nat),NatAt V' c.t4 q∧q≤N∧x.t5=(r:Int)∧x.t6=(k:Int)∧k≤9∧r<10^(9-k)∧LstOk 1 x.t3l x.t3c x.o3 (digC dl)∧x.t3l=dl.length∧low N=dl++low (q*10^(9-k)+r)) (fun _ x _=>(9-x.t6).toNat)
  (fun c x _=>∃(i j:Nat) (w:List Value),x.t7=(i:Int)∧x.t8=(j:Int)∧j+i=c.t3l-1∧(i≤j+1)∧x.o3=revI w c.t3l i∧LstOk 1 c.t3l c.t3c w (digC (low N))∧c.t3l=(low N).length) (fun _ x _=>(x.t8-x.t7+2).toNat)
  ⟨fun h0 => ?_,fun h0=>⟨⟨N,[],h,Nat.le_refl _,LstOk.nil,rfl,rfl⟩,?_⟩⟩
 · have:s.len=0:=by have:(s.len:Int)=0:=(by simpa using h0); omega
   rw[hz.1 this,decS_zero]
 have hN0:N≠0:=by
  intro e; rw[←hz]at e; rw[e]at h0; simp at h0
 rintro⟨t0,n,c,o⟩ V1 l1 ⟨X,dl,hX,hXN,hlo,hn,hval⟩
 dsimp only at hX hlo hn ⊢
 have hXz:=hX.len_zero
 refine⟨fun hp => ?_,fun hp => ?_⟩
 · simp only[gt_iff_lt,decide_eq_true_eq]at hp
   have hX0:X≠0:=fun e=>by rw[←hXz]at e; omega
   have hbX:bl X≤2^42:=Nat.le_trans (bl_mono hXN) hb
   refine(ref1_natDigit_spec (d:=1000000000) hX (wn_bl (by omega)) (by omega) (by omega)).mono fun v V2 l2 ⟨r1,hv,h1⟩=>⟨r1,_,hv,⟨X / 1000000000,X%1000000000,0,dl,h1,Nat.le_trans (Nat.div_le_self _ _) hXN,rfl,rfl,by omega,?_,hlo,hn,?_⟩,?_⟩
   · exact Nat.mod_lt _ (by omega)
   · have:X / 1000000000*10^(9-0)+X%1000000000=X:=by
       rw[show(10:Nat)^(9-0)=1000000000 by decide]; omega
     rw[this]; exact hval
   rintro⟨n3,c3,r3,k3,o3⟩ V3 l3 ⟨q,r,k,dl3,hq,hqN,rfl,rfl,hk,hr,hlo3,hn3,hval3⟩
   dsimp only at hq hlo3 hn3 ⊢
   have hqe:=hq.inj (h1.le l3)
   have hlt9:r<1000000000:=Nat.lt_of_lt_of_le hr (by
    have:(10:Nat)^(9-k)≤10^9:=Nat.pow_le_pow_right (by omega) (by omega)
    exact Nat.le_trans this (by decide))
   have hl3:dl3.length≤2^42:=by
    have:=congrArg List.length hval3
    rw[List.length_append]at this; omega
   have hqz:=hq.len_zero
   have step:(q≠0∨r≠0)→k<9→∀(b1:Nat) (V4:View),V3.le V4→View.Fin V4→V4 b1=some #[.int .u8 (IntKind.u8.wrap (IntKind.u32.wrap (48+(Int.tmod (r:Int) 10))))] →
    ∃(l1:List Value) (l2:List Value),LstOk 1 n3 c3 o3 l1∧View.has V4 (some (Addr.mk b1 0 none)) l2∧List.length l2=1*1∧(∀v∈l2,Value.oneCell' v=true)∧n3+1≤maxLen∧(n3+1)*1≤140737488355328 ∧
    ∀(c1:Nat) (l3:List Value),LstOk 1 (n3+1) c1 l3 (l1++l2) →
    (∃(q' r' k':Nat) (dl:List Nat),NatAt V4 r1 q'∧q'≤N∧(IntKind.u32.wrap (Int.tdiv (r:Int) 10))=(r':Int)∧(IntKind.i64.wrap ((k:Int)+1))=(k':Int)∧k'≤9∧r'<10^(9-k')∧LstOk 1 (n3+1) c1 l3 (digC dl)∧n3+1=dl.length∧low N=dl++low (q'*10^(9-k')+r'))∧(9-(IntKind.i64.wrap ((k:Int)+1))).toNat<(9-(k:Int)).toNat:=by
    intro hne hk9 b1 V4 l4 _ hb1
    rw[u8dig]at hb1
    have hrr:r / 10<10^(9-(k+1)):=by
     have:10^(9-k)=10^(9-(k+1))*10:=by rw[←Nat.pow_succ]; congr 1; omega
     omega
    have hst:=low_step (q:=q) (r:=r) (k:=9-(k+1)) hne
    rw[show 9-(k+1)+1=9-k by omega]at hst
    refine⟨digC dl3,[.int .u8 ((48+r%10:Nat):Int)],hlo3,has_block hb1,rfl,oneC _,Nat.le_trans (show n3+1≤2^43 by omega) (by decide),by omega,fun c1 l3' hl3'=>⟨⟨q,r / 10,k+1,dl3++[r%10],hq.le l4,hqN,u32q (by omega),by rw[i64w (by omega) (by omega)]; omega,hk9,hrr,?_,by simp[hn3],?_⟩,by rw[i64w (by omega) (by omega)]; omega⟩⟩
    · rw[←digC_append]; exact hl3'
    · rw[hval3,hst]; simp
   have stop:(k=9∨q=0∧r=0)→(∃(X:Nat) (dl:List Nat),NatAt V3 r1 X∧X≤N∧LstOk 1 n3 c3 o3 (digC dl)∧n3=dl.length∧low N=dl++low X)∧natVal V3 r1<natVal V1 t0:=by
    intro hs
    refine⟨⟨q,dl3,hq,hqN,hlo3,hn3,?_⟩,?_⟩
    · rcases hs with rfl|⟨rfl,rfl⟩
      · have:r=0:=by simp at hr; omega
        subst this
        simpa using hval3
      · simpa using hval3
    · rw[natVal_eq hq,natVal_eq hX,hqe]
      omega
   refine⟨fun hk9=>⟨fun hr1=>⟨fun _=>step (.inr ?_) (by have:(k:Int)<9:=(by simpa using hk9); omega),fun h=>absurd h (by simp)⟩,fun hr1=>⟨fun hq1=>step (.inl ?_) (by have:(k:Int)<9:=(by simpa using hk9); omega),fun hq1=>stop (.inr ⟨?_,?_⟩)⟩⟩,fun hk9=>⟨fun h=>absurd h (by simp),fun _=>stop (.inl ?_)⟩⟩
   · simp only[gt_iff_lt,decide_eq_true_eq]at hr1; omega
   · simp only[gt_iff_lt,decide_eq_true_eq]at hq1
     intro e; rw[←hqz]at e; omega
   · simp only[gt_iff_lt,decide_eq_false_iff_not]at hq1; exact hqz.1 (by omega)
   · simp only[gt_iff_lt,decide_eq_false_iff_not]at hr1; omega
   · simp only[decide_eq_false_iff_not]at hk9; omega
 · simp only[gt_iff_lt,decide_eq_false_iff_not]at hp
   have hX0:X=0:=hXz.1 (by omega)
   rw[hX0,low_zero,List.append_nil]at hval
   subst hval
   have hd0:low N≠[]:=by rw[low_pos hN0]; simp
   have hl0:0<(low N).length:=List.length_pos_iff.2 hd0
   have hle:=hlo.le
   have hol:=hlo.len
   rw[Nat.mul_one]at hol
   refine⟨⟨by intro e; rw[e]at hol; simp at hol; omega,⟨by omega,trivial⟩,trivial⟩,⟨0,n-1,o,rfl,?_,by omega,by omega,(revI_zero o n).symm,hlo,hn⟩,?_⟩
   · show IntKind.i64.wrap ((n:Int)-1)=_
     rw[i64w (by omega) (by omega)]; omega
   rintro⟨t7,t8,o7⟩ V7 l7 ⟨i,j,w,rfl,rfl,hij,hi,rfl,hw,_⟩
   dsimp only at hij hw ⊢
   have hwt:=hw.take
   have hwl:=hw.len
   rw[Nat.mul_one]at hwt hwl
   have htl:n≤w.length:=by omega
   have g:∀p,p<n→w[p]?=some (.int .u8 (((48+(low N).getD p 0:Nat):Nat):Int)):=by
    intro p hp'
    rw[←List.getElem?_take_of_lt hp',hwt]
    exact digC_get (by omega)
   have gd:∀p,p<n→w.getD p undef = .int .u8 (((48+(low N).getD p 0:Nat):Nat):Int):=fun p hp=>by simp only[List.getD]; rw[g p hp]; rfl
   refine⟨fun hlt => ?_,fun hge => ?_⟩
   · simp only[decide_eq_true_eq]at hlt
     have hij':i<j:=by omega
     rw[i64w (n:=(i:Int)+1) (by omega) (by omega),i64w (n:=(j:Int)-1) (by omega) (by omega)]
     simp only[Int.toNat_natCast,Nat.mul_one,Nat.zero_add]
     refine⟨⟨by omega,by omega⟩,((48+(low N).getD j 0:Nat):Int),?_,⟨by omega,by omega⟩,((48+(low N).getD i 0:Nat):Int),?_,⟨by omega,by omega⟩,by rw[revI_length]; omega,⟨by omega,by omega⟩,by rw[List.length_set,revI_length]; omega,⟨i+1,j-1,w,by omega,by omega,by omega,by omega,?_,hw,hn⟩,by omega⟩
     · rw[revI_mid (by omega) (by omega) (by omega),gd j (by omega)]
     · rw[revI_mid (by omega) (by omega) (by omega),gd i (by omega)]
     · have:=revI_step (o:=w) htl hij hij'
       rw[gd i (by omega),gd j (by omega)]at this
       exact this
   · simp only[decide_eq_false_iff_not]at hge
     intro b4 V8 l8 hb4
     have ht10:=revI_end (i:=i) htl (by omega)
     rw[hwt,digC_rev hN0]at ht10
     refine⟨decL N,?_,by rw[decL_length hN0]; omega,rfl,rfl⟩
     intro j' v hj
     have hjl:j'<n:=by
      rcases Nat.lt_or_ge j' n with h|h
      · exact h
      · rw[List.getElem?_eq_none (by simp[decL_length hN0]; omega)]at hj; simp at hj
     rw[load_block hb4]
     rw[←ht10,List.getElem?_take_of_lt hjl]at hj
     simpa using hj
theorem one_word {V:View} {s:Sl} {n:Nat} (h:NatAt V s n) (hl:s.len=1):((dig n).getD 0 0=1)↔n=1:=by
 have h2:=h.len
 rw[hl]at h2
 have h3:=wval_dig n
 obtain⟨w,hw⟩:∃w,dig n=[w]:=List.length_eq_one_iff.1 h2.symm
 rw[hw]at h3 ⊢
 simp[wval]at h3 ⊢
 omega
theorem ref1_half_spec {V:View} {x:WhV} {s:Sl} {a:Int} {d:Nat} (hx:IntAt V x a) (hs:NatAt V s d) (hd:d≠0) (ha:bl a.natAbs≤2^41) (hdb:bl d≤2^41) :
 CallV Tryz.prog n_ref1_half #[x.val,s.v] V fun v _=>v = .string (ratT a d):=by
 obtain⟨b1,b2⟩:=ratQ1_bl (a:=a) hd
 obtain⟨e1,e2,e3⟩:=ratQ1_eqs (a:=a) hd
 have s1:=decS_size (ratQ1 a d).A.natAbs
 have s2:=decS_size (ratQ1 a d).D
 have hmax:IntKind.i64.max=9223372036854775807:=by decide
 have z1:(ByteArray.mk #[45]).size=1:=rfl
 have z2:(ByteArray.mk #[47]).size=1:=rfl
 have hg0:0<Nat.gcd a.natAbs d:=Nat.gcd_pos_of_pos_right _ (by omega)
 refine ref1_half_vc x s V _ ((ref1_NatGcd_spec hx.2 hs (wn_bl (by omega)) (wn_bl (by omega))).mono fun v V1 l1 ⟨r1,hv,h1⟩=>⟨r1,hv,?_⟩)
 refine(ref1_NatDiv_spec (hx.2.le l1) h1 (wn_bl (by omega)) (by omega)).mono fun v V2 l2 ⟨q1,m1,hv,h2,_⟩=>⟨q1,m1,hv,?_⟩
 refine(ref1_NatDiv_spec (hs.le (View.le_trans l1 l2)) (h1.le l2) (wn_bl (by omega)) (by omega)).mono fun v V3 l3 ⟨q2,m2,hv,h3,_⟩=>⟨q2,m2,hv,?_⟩
 rw[←e1]at h2
 rw[←e2]at h3
 refine(ref1_NatText_spec (h2.le l3) (by omega)).mono fun v V4 l4 hv=>⟨_,hv,?_⟩
 have h3':=h3.le l4
 have hn:=hx.1
 have one:q2.len=1→(((0:Int)≤0∧(0:Int)<(q2.len:Nat)∧Option.isSome q2.a=true)∧View.load V4 (Option.map (fun q=>Addr.add q (Int.toNat 0*1)) q2.a)=some (.int .u32 (((dig (ratQ1 a d).D).getD (Int.toNat 0) 0:Nat):Int))):=fun hl =>
  ⟨⟨by omega,by omega,h3'.isSome (by omega)⟩,h3'.get (by omega) (by omega)⟩
 have ne1:(ratQ1 a d).D=1→q2.len=1:=fun e=>by rw[e]at h3'; have:=h3'.len; rw[dig_one]at this; exact this
 have rest:∀(pre:ByteArray),pre.size≤2^42+2→(ratQ1 a d).D≠1→ratT a d=pre++(strSlash++decS (ratQ1 a d).D) →
  ((ByteArray.size pre+ByteArray.size (ByteArray.mk #[47]):Nat):Int)≤IntKind.i64.max ∧
  CallV Tryz.prog n_ref1_NatText #[q2.v] V4 fun v V5=>∃r7:ByteArray,v = .string r7 ∧
  ((ByteArray.size (pre++(ByteArray.mk #[47]))+ByteArray.size r7:Nat):Int)≤IntKind.i64.max ∧
  Value.string ((pre++(ByteArray.mk #[47]))++r7)=Value.string (ratT a d):=by
  intro pre hp h1 he
  refine⟨by rw[z2,hmax]; omega,(ref1_NatText_spec h3' (by omega)).mono fun v V5 l5 hv=>⟨_,hv,by rw[bytes_size,z2,hmax]; omega,?_⟩⟩
  rw[he,bytes_assoc]; rfl
 have tail:∀(pre:ByteArray),pre.size≤2^42+2→((ratQ1 a d).D=1→ratT a d=pre)→((ratQ1 a d).D≠1→ratT a d=pre++(strSlash++decS (ratQ1 a d).D)) →
  ((((q2.len:Int):Int)==1)=true →
  ((0:Int)≤0∧(0:Int)<(q2.len:Nat)∧Option.isSome q2.a=true) ∧
  ∃x1:Int,View.load V4 (Option.map (fun q=>Addr.add q (Int.toNat 0*1)) q2.a)=some (.int .u32 x1) ∧
  (((x1:Int)==1)=true→Value.string pre=Value.string (ratT a d)) ∧
  (((x1:Int)==1)=false →
    ((ByteArray.size pre+ByteArray.size (ByteArray.mk #[47]):Nat):Int)≤IntKind.i64.max ∧
    CallV Tryz.prog n_ref1_NatText #[q2.v] V4 fun v V5=>∃r7:ByteArray,v = .string r7 ∧
    ((ByteArray.size (pre++(ByteArray.mk #[47]))+ByteArray.size r7:Nat):Int)≤IntKind.i64.max ∧
    Value.string ((pre++(ByteArray.mk #[47]))++r7)=Value.string (ratT a d))) ∧
  ((((q2.len:Int):Int)==1)=false →
  (false=true→Value.string pre=Value.string (ratT a d)) ∧
  (false=false →
    ((ByteArray.size pre+ByteArray.size (ByteArray.mk #[47]):Nat):Int)≤IntKind.i64.max ∧
    CallV Tryz.prog n_ref1_NatText #[q2.v] V4 fun v V6=>∃r8:ByteArray,v = .string r8 ∧
    ((ByteArray.size (pre++(ByteArray.mk #[47]))+ByteArray.size r8:Nat):Int)≤IntKind.i64.max ∧
    Value.string ((pre++(ByteArray.mk #[47]))++r8)=Value.string (ratT a d))):=by
  intro pre hp he hne
  refine⟨fun hl => ?_,fun hl=>⟨fun h=>absurd h (by simp),fun _ => ?_⟩⟩
  · have hl:q2.len=1:=by have:(q2.len:Int)=1:=(by simpa using hl); omega
    obtain⟨g1,g2⟩:=one hl
    have hw:=one_word h3' hl
    refine⟨g1,_,g2,fun h => ?_,fun h => ?_⟩
    · have:(((dig (ratQ1 a d).D).getD 0 0:Nat):Int)=1:=of_decide_eq_true (by rw[←h]; rfl)
      rw[he (hw.1 (by omega))]
    · have:¬(((dig (ratQ1 a d).D).getD 0 0:Nat):Int)=1:=of_decide_eq_false (by rw[←h]; rfl)
      have h1:(ratQ1 a d).D≠1:=fun e=>this (by have:=hw.2 e; omega)
      exact rest pre hp h1 (hne h1)
  · have h1:(ratQ1 a d).D≠1:=fun e=>by rw[ne1 e]at hl; simp at hl
    exact rest pre hp h1 (hne h1)
 refine⟨fun hneg=>⟨by rw[z1,hmax]; omega,tail _ (by rw[bytes_size,z1]; omega) (fun e => ?_) (fun e => ?_)⟩,fun hneg=>tail _ (by omega) (fun e => ?_) (fun e => ?_)⟩
 all_goals
  rw[hneg]at hn
  unfold ratT ratS
 · have hn:(ratQ1 a d).A<0:=e3.2 (of_decide_eq_true hn.symm)
   simp only[hn,e,if_true]; rfl
 · have hn:(ratQ1 a d).A<0:=e3.2 (of_decide_eq_true hn.symm)
   simp only[hn,e,if_true,if_false]; rfl
 · have hn:¬(ratQ1 a d).A<0:=fun h=>(of_decide_eq_false hn.symm) (e3.1 h)
   simp only[hn,e,if_true,if_false]
 · have hn:¬(ratQ1 a d).A<0:=fun h=>(of_decide_eq_false hn.symm) (e3.1 h)
   simp only[hn,e,if_false]
theorem ref1_Text_spec {V:View} {x:NumV} {z:Cq} (hx:QAt V x z) (hz:z.sz≤2^40):CallV Tryz.prog n_ref1_Text #[x.val] V fun v _=>v = .string (cqS z):=by
 have zA:=z.szA; have zB:=z.szB; have zD:=z.szD
 have hD:=z.D_pos
 have t1:=ratT_size (a:=z.A) hD
 have t2:=ratT_size (a:=z.B) hD
 have hmax:IntKind.i64.max=9223372036854775807:=by decide
 have z1:(ByteArray.mk #[105]).size=1:=rfl
 have z2:(ByteArray.mk #[43]).size=1:=rfl
 have hA0:=intAt_lenpos hx.re
 have hB0:=intAt_lenpos hx.im
 rw[cqS_eq]
 refine ref1_Text_vc x V _ ⟨fun hr => ?_,fun hr=>⟨fun hA => ?_,fun hA => ?_⟩⟩
 · have hB:z.B=0:=hB0.1 ((lenT _).1 hr)
   rw[if_pos hB]
   exact(ref1_half_spec hx.re hx.under hD (by omega) (by omega)).mono fun v V3 l3 hv=>⟨_,hv,rfl⟩
 all_goals
  have hB:¬z.B=0:=fun e=>by rw[hB0.2 e]at hr; simp at hr
  rw[if_neg hB]
 · have hA:z.A=0:=hA0.1 ((lenT _).1 hA)
   rw[if_pos hA]
   exact(ref1_half_spec hx.im hx.under hD (by omega) (by omega)).mono fun v V3 l3 hv=>⟨_,hv,by rw[z1,hmax]; omega,rfl⟩
 · have hA:¬z.A=0:=fun e=>by rw[hA0.2 e]at hA; simp at hA
   have hneg:=hx.im.1
   rw[if_neg hA]
   refine⟨fun hn => ?_,fun hn => ?_⟩
   · rw[hn]at hneg
     rw[if_pos (of_decide_eq_true hneg.symm)]
     refine(ref1_half_spec hx.re hx.under hD (by omega) (by omega)).mono fun v V3 l3 hv=>⟨_,hv,?_⟩
     refine(ref1_half_spec (hx.im.le l3) (hx.under.le l3) hD (by omega) (by omega)).mono fun v V4 l4 hv=>⟨_,hv,by rw[hmax]; omega,by rw[bytes_size,z1,hmax]; omega,?_⟩
     rw[bytes_assoc]; rfl
   · rw[hn]at hneg
     rw[if_neg (of_decide_eq_false hneg.symm)]
     refine(ref1_half_spec hx.re hx.under hD (by omega) (by omega)).mono fun v V3 l3 hv=>⟨_,hv,by rw[z2,hmax]; omega,?_⟩
     refine(ref1_half_spec (hx.im.le l3) (hx.under.le l3) hD (by omega) (by omega)).mono fun v V4 l4 hv=>⟨_,hv,by rw[bytes_size,z2,hmax]; omega,by rw[bytes_size,bytes_size,z1,z2,hmax]; omega,?_⟩
     rw[bytes_assoc,bytes_assoc]; rfl
theorem law1_Is_spec {V:View} {x y:NumV} {z:Cq} (hx:NumAt V x z) (hy:QAt V y z) (hz:z.sz≤2^40):CallV Tryz.prog n_law1_Is #[x.val,y.val] V fun v _=>v = .bool true:=by
 refine law1_Is_vc x y V _ ((Num_Text_spec hx hz).mono fun v V1 l1 hv=>⟨_,hv,(ref1_Text_spec (hy.le l1) hz).mono fun v V2 l2 hv=>⟨_,hv,?_⟩⟩)
 rw[beq_self_eq_true]
def qC (V:View) (x:List Value) (z:Cq):Prop:=∃n:NumV,x=n.val.cells.toList∧QAt V n z
theorem qC.le {V V':View} (hle:V.le V') (x:List Value) (z:Cq) (h:qC V x z):qC V' x z:=by
 obtain⟨n,e,hn⟩:=h; exact⟨n,e,hn.le hle⟩
def QsAt (V:View) (s:Sl) (zs:List Cq):Prop:=ListAt 5 qC V s zs
def QsIn (V:View) (o:List Value) (zs:List Cq):Prop:=Cells 5 qC V o zs
theorem QsAt.le {V V':View} (hle:V.le V') {s:Sl} {zs:List Cq} (h:QsAt V s zs):QsAt V' s zs:=ListAt.le (qC.le hle) hle h
theorem QsIn.le {V V':View} (hle:V.le V') {o:List Value} {zs:List Cq} (h:QsIn V o zs):QsIn V' o zs:=Cells.imp (qC.le hle) h
theorem QsAt.get {V:View} {s:Sl} {zs:List Cq} (h:QsAt V s zs) {t:Int} (h0:0≤t) (h1:t.toNat<zs.length) :
 ((0:Int)≤t∧t<(s.len:Nat)∧Option.isSome s.a=true) ∧
 ∃x:NumV,V.has (Option.map (fun q=>Addr.add q (Int.toNat t*5)) s.a) x.val.cells.toList∧Option.isSome (Option.map (fun q=>Addr.add q (Int.toNat t*5)) s.a)=true∧QAt V x (nth zs t.toNat):=by
 obtain⟨hb,x,⟨n,e,hn⟩,_,h1,h2⟩:=ListAt.get h h0 (nth_get h1)
 exact⟨hb,n,e▸h1,h2,hn⟩
theorem QsIn.push {V:View} {o:List Value} {zs:List Cq} (h:QsIn V o zs) {r:NumV} {z:Cq} (hr:QAt V r z) :
 QsIn V (o++[.bool r.re.neg,r.re.mag.v,.bool r.im.neg,r.im.mag.v,r.under.v]) (zs++[z]):=Cells.append h (Cells.one rfl ⟨r,rfl,hr⟩)
theorem law1_AreAll_spec {V:View} {p q:Sl} {zs:List Cq} (hp:NumsAt V p zs) (hq:QsAt V q zs) (hl:zs.length≤2^40) (hz:∀i,i<zs.length→(nth zs i).sz≤2^40) :
 CallV Tryz.prog n_law1_AreAll #[p.v,q.v] V fun v _=>v = .bool true:=by
 have hpl:=hp.len
 have hql:=hq.len
 refine law1_AreAll_vc p q V _ (fun _ x _=>∃i:Nat,x.t14=(i:Int)∧i≤zs.length) (fun _ x _=>(zs.length-x.t14).toNat) ⟨fun h => ?_,fun _=>⟨⟨0,rfl,by omega⟩,?_⟩⟩
 · rw[hpl,hql]at h; simp at h
 rintro⟨t⟩ V1 l1 ⟨i,rfl,hi⟩
 dsimp only
 refine⟨fun hlt => ?_,fun _=>rfl⟩
 simp only[decide_eq_true_eq]at hlt
 have hi':(i:Int).toNat<zs.length:=by omega
 obtain⟨hb1,x,hx,hs,hnx⟩:=(hp.le l1).get (by omega) hi'
 obtain⟨hb2,y,hy,hs2,hny⟩:=(hq.le l1).get (by omega) hi'
 refine⟨hb1,x,hx,hs,hb2,y,hy,hs2,(law1_Is_spec hnx hny (hz _ hi')).mono fun v V2 l2 hv=>⟨_,hv,fun h=>absurd h (by simp),fun _ => ?_⟩⟩
 rw[i64w (by omega) (by omega)]
 exact⟨⟨i+1,by omega,by omega⟩,by omega⟩
def all4:List Cq:=[⟨1,0⟩,⟨0,-1⟩,⟨-1,0⟩,⟨0,1⟩]
def rootsQ (n:Nat):List Cq:=(List.range n).map fun j=>nth all4 (4 / n*j)
theorem all4_1:(⟨((1:Int):Rat),0⟩:Cq)=⟨1,0⟩:=Cq.ext' (by simp) rfl
theorem all4_2:(⟨((0:Int):Rat) / ((1:Int):Rat),((-1:Int):Rat) / ((1:Int):Rat)⟩:Cq)=⟨0,-1⟩:=Cq.ext' (by simp only[]; grind) (by simp only[]; grind)
theorem all4_3:(⟨((-1:Int):Rat),0⟩:Cq)=⟨-1,0⟩:=Cq.ext' (by simp only[]; grind) rfl
theorem all4_4 : -(⟨0,-1⟩:Cq)=⟨0,1⟩:=Cq.ext' (by rw[Cq.neg_re]; grind) (by rw[Cq.neg_im]; grind)
theorem transform_Exact_spec {V:View} {n:Nat} (hn:n=1∨n=2∨n=4) :
 CallV Tryz.prog n_transform_Exact #[.int .i64 (n:Int)] V fun v V'=>∃r:Sl,v = .tuple #[r.v,.int .i64 0]∧NumsAt V' r (rootsQ n):=by
 have hd:(4 / n)*n=4:=by rcases hn with rfl|rfl|rfl<;>rfl
 have hpos:1≤4 / n:=by rcases hn with rfl|rfl|rfl<;>decide
 have hn4:n≤4:=by omega
 have hn0:n≠0:=by omega
 have hdi:Int.tdiv 4 (n:Int)=((4 / n:Nat):Int):=by rcases hn with rfl|rfl|rfl<;>rfl
 have hw:IntKind.i64.wrap (Int.tdiv 4 (n:Int))=((4 / n:Nat):Int):=by
  rw[hdi]
  refine i64w (by omega) ?_
  have:4 / n≤4:=Nat.div_le_self _ _
  omega
 have hq:4 / n≤4:=Nat.div_le_self _ _
 refine transform_Exact_vc (n:Int) V _ (fun c x V'=>∃l,NumsAt V' c.t6 all4∧x.t8=(4 / n*x.t7l:Nat)∧x.t7l≤n∧LstOk 5 x.t7l x.t7c x.o7 l∧NumsIn V' l ((List.range x.t7l).map fun j=>nth all4 (4 / n*j)))
  (fun _ x _=>n-x.t7l) ((transform_length_spec (Int.natCast_nonneg _)).mono fun v V1 l1 hv=>⟨_,hv,fun h => ?_,fun h=>⟨fun h => ?_,fun _ => ?_⟩⟩)
 · exfalso
   rw[Int.toNat_natCast]at h
   rcases hn with rfl|rfl|rfl<;>exact absurd h (by decide)
 · exfalso; simp at h; omega
 refine(num_New_spec (by omega) (by omega) (by omega) (by omega) (by omega) (by omega) (by omega)).mono fun v V2 l2 ⟨r2,hv,h2⟩=>⟨r2,0,hv,?_⟩
 refine(num_Int_spec (by omega) (by omega)).mono fun v V3 l3 ⟨r4,hv,h4⟩=>⟨r4,hv,?_⟩
 refine(num_Int_spec (by omega) (by omega)).mono fun v V4 l4 ⟨r5,hv,h5⟩=>⟨r5,hv,?_⟩
 rw[all4_2]at h2
 rw[all4_1]at h4
 rw[all4_3]at h5
 refine(Num_Neg_spec (h2.le (View.le_trans l3 l4))).mono fun v V5 l5 ⟨r6,hv,h6⟩=>⟨r6,hv,?_⟩
 rw[all4_4]at h6
 intro b V6 l6 hf hb
 have hall:NumsAt V6 (Sl.mk (some (Addr.mk b 0 none)) 4 4) all4 :=
  ListAt.of_made (o:=[.bool r4.re.neg,r4.re.mag.v,.bool r4.im.neg,r4.im.mag.v,r4.under.v]++([.bool r2.re.neg,r2.re.mag.v,.bool r2.im.neg,r2.im.mag.v,r2.under.v]++([.bool r5.re.neg,r5.re.mag.v,.bool r5.im.neg,r5.im.mag.v,r5.under.v]++([.bool r6.re.neg,r6.re.mag.v,.bool r6.im.neg,r6.im.mag.v,r6.under.v]++[]))))
   (by simpa using hb)
   ⟨_,_,rfl,rfl,⟨r4,rfl,h4.le (View.le_trans l4 (View.le_trans l5 l6))⟩,_,_,rfl,rfl,⟨r2,rfl,h2.le (View.le_trans l3 (View.le_trans l4 (View.le_trans l5 l6)))⟩,_,_,rfl,rfl,⟨r5,rfl,h5.le (View.le_trans l5 l6)⟩,_,_,rfl,rfl,⟨r6,rfl,h6.le l6⟩,rfl⟩ rfl
 refine⟨⟨[],hall,by simp,by simp,LstOk.nil,rfl⟩,?_⟩
 rintro⟨k,c,t,o⟩ V7 l7 ⟨l,hA,ht,hk,hlo,hin⟩
 simp only at hA ht hk hlo hin ⊢
 refine⟨fun hlt => ?_,fun hge => ?_⟩
 · simp only[decide_eq_true_eq]at hlt
   have hkn:k<n:=by
    rcases Nat.lt_or_ge k n with h|h
    · exact h
    · have:=Nat.mul_le_mul_left (4 / n) h
      omega
   obtain⟨hb',x,hx,hs,hnx⟩:=hA.get (t:=t) (by omega) (by simp[all4]; omega)
   refine⟨hb',x,hx,hs,fun b2 V8 l8 hf8 hb8 => ?_⟩
   refine⟨l,_,hlo,has_block (l:=[.bool x.re.neg,x.re.mag.v,.bool x.im.neg,x.im.mag.v,x.under.v]) hb8,rfl,oneCell_num x,Nat.le_trans (show k+1≤5 by omega) (show 5≤maxLen by decide),by omega,fun c1 l3' hl3=>⟨by omega,⟨_,hA.le l8,?_,by omega,hl3,?_⟩,by omega⟩⟩
   · rw[hw,i64w (by omega) (by omega),ht,Nat.mul_add]; omega
   · rw[←push_range]
     have e3:4 / n*k=t.toNat:=by omega
     rw[e3]
     exact(hin.le l8).push (hnx.le l8)
 · simp only[decide_eq_false_iff_not]at hge
   intro b3 V9 l9 hb9
   refine⟨_,rfl,?_⟩
   have hkn:k=n:=by
    rcases Nat.lt_or_ge k n with h|h
    · have:=Nat.mul_le_mul_left (4 / n) (show k+1≤n from h)
      rw[Nat.mul_add]at this
      omega
    · omega
   subst hkn
   refine ListAt.of_lst hlo hb9 (hin.le l9) ?_
   simp[rootsQ]
theorem transform_Fast_spec {V:View} {p w:Sl} {m:Nat} {zs ws:List Cq} (S T:Nat) (hm:m≤6) (hz:zs.length=2^m) (hw:ws.length=2^m) (hp:NumsAt V p zs) (hq:NumsAt V w ws)
 (hS:∀i,i<2^m→(nth zs i).sz≤S) (hT:∀i,i<2^m→(nth ws i).sz≤T) (hsz:2^m*(S+T+2)≤2^39) :
 CallV Tryz.prog n_transform_Fast_num_Num_ #[p.v,w.v] V fun v V'=>∃r:Sl,v = .tuple #[r.v,.int .i64 0]∧NumsAt V' r (stageF m zs ws):=by
 have hpl:=hp.len
 have hwl:=hq.len
 have hl:lenB w.len=true:=by
  rw[hwl,hw]
  have key:∀m∈List.range 7,lenB (2^m)=true:=by decide
  exact key m (by simp; omega)
 refine transform_Fast_num_Num__vc p w V _ ((transform_fits_spec p w).mono fun v V1 l1 hv=>⟨_,hv,fun h => ?_,fun h => ?_⟩)
 · rw[hl]at h; simp at h; omega
 · have ne:stageF m zs ws≠[]:=by
     intro e
     have:=stageF_length m zs ws
     rw[e]at this; simp at this
     have:0<2^m:=Nat.pow_pos (by omega)
     omega
   exact(CallO.nums ne (transform_stage_owned m S T hm hz hw (hp.le l1) (hq.le l1) hS hT hsz)).mono fun v V2 l2 ⟨r,hv,hr⟩=>⟨r,hv,r,rfl,hr⟩
def gateOk (g:GateV) (n:Int):Prop:=0≤g.from_∧g.from_<n∧0≤g.count∧g.count≤n
theorem transform_valid_ok {V:View} {g:GateV} {n:Nat} (hl:lenB n=true) (h:gateOk g n) :
 CallV Tryz.prog n_transform_valid #[g.val,.int .i64 (n:Int)] V fun v _=>v = .int .i64 0:=by
 obtain⟨h1,h2,h3,h4⟩:=h
 refine transform_valid_vc g n V _ ((transform_length_spec (Int.natCast_nonneg _)).mono fun v V1 l1 hv=>⟨_,hv,fun h => ?_,fun _=>⟨fun h => ?_,fun _=>⟨fun h => ?_,fun _=>⟨fun h => ?_,fun _=>⟨fun h => ?_,fun _=>rfl⟩⟩⟩⟩⟩)
 · rw[Int.toNat_natCast,hl]at h; simp at h
 · simp at h; omega
 · simp at h; omega
 · simp at h; omega
 · simp at h; omega
theorem transform_Rest_ok {V:View} {g:GateV} {n:Nat} (hl:lenB n=true) (h:gateOk g n) :
 CallV Tryz.prog n_transform_Rest #[g.val,.int .i64 (n:Int)] V fun v _=>v = .tuple #[(GateV.mk ((g.from_+g.count)%n) (n-g.count)).val,.int .i64 0]:=by
 have hb:=lenB_le hl
 obtain⟨h1,h2,h3,h4⟩:=id h
 refine transform_Rest_vc g n V _ ((transform_valid_ok hl h).mono fun v V1 l1 hv=>⟨_,hv,fun h => ?_,fun _=>⟨by omega,?_⟩⟩)
 · simp at h
 · rw[i64w (by omega) (by omega),i64w (by omega) (by omega),Int.tmod_eq_emod_of_nonneg (by omega)]
theorem slices_Reverse_one {V:View} {c:Nat} {w:List Value} :
 CallD Tryz.prog n_slices_Reverse___byte_byte_ (fun b=>(Value.slice (some ⟨b,0,none⟩) 1 c::[]:List Value)) T_u8 w V fun v l _=>v = .tuple #[]∧l=w:=by
 refine slices_Reverse___byte_byte__vc 0 1 c w V _ (fun _ x _=>x.t2=0∧x.t3=0∧x.o0=w) (fun _ _ _=>0) ⟨⟨rfl,(by decide:IntKind.i64.wrap (((1:Nat):Int)-1)=0),rfl⟩,?_⟩
 rintro⟨a,b,o⟩ V1 l1 ⟨h1,h2,h3⟩
 dsimp only at h1 h2 h3 ⊢
 subst h1; subst h2; subst h3
 exact⟨fun h=>absurd h (by simp),fun _=>⟨rfl,rfl⟩⟩
theorem nat_digits_one {V:View} {s:Sl} {n:Nat} (h:NatAt V s n) (h0:0<n) (h9:n<10) :
 CallV Tryz.prog n_nat_digits #[s.v] V fun v _=>v = .string (ByteArray.mk #[UInt8.ofNat (48+n)]):=by
 have hl:=h.len_zero
 refine nat_digits_vc s V _
  (fun _ x V'=>(NatAt V' x.t0 n∧x.t3l=0∧x.t3c=0∧x.o3=[])∨(x.t0.len=0∧x.t3l=1∧LstOk 1 1 x.t3c x.o3 [.int .u8 ((48+n:Nat):Int)])) (fun _ x _=>x.t0.len)
  (fun c x V'=>c.t0.len=0∧((x.t3l=0∧x.t3c=0∧x.t4=n∧x.t5=0∧x.o3=[])∨(x.t3l=1∧x.t4=0∧x.t5=1∧LstOk 1 1 x.t3c x.o3 [.int .u8 ((48+n:Nat):Int)]))) (fun _ x _=>1-x.t3l)
  ⟨fun h1 => ?_,fun _=>⟨.inl ⟨h,rfl,rfl,rfl⟩,?_⟩⟩
 · exfalso; have h1:(s.len:Int)=0:=(by simpa using h1); omega
 rintro⟨t0,t3l,t3c,o3⟩ V1 l1 hI
 dsimp only at hI ⊢
 refine⟨fun hp => ?_,fun hz => ?_⟩
 · simp only[gt_iff_lt,decide_eq_true_eq]at hp
   rcases hI with⟨hA,rfl,rfl,rfl⟩|⟨hA,_⟩
   rotate_left
   · exfalso; omega
   have hw:wn n≤2^45:=by have:wn n≤2:=wn_le_of_lt (by omega); omega
   refine(nat_short_spec hA hw (d:=1000000000) (by omega) (by omega)).mono fun v V2 l2 ⟨r1,hv,hr1⟩=>⟨r1,_,hv,?_⟩
   rw[Nat.div_eq_of_lt (by omega)]at hr1
   have hr0:r1.len=0:=hr1.len_zero.2 rfl
   rw[Nat.mod_eq_of_lt (by omega)]
   refine⟨⟨hr0,.inl ⟨rfl,rfl,rfl,rfl,rfl⟩⟩,?_⟩
   rintro⟨t3l,t3c,t4,t5,o3⟩ V3 l3 ⟨_,hI⟩
   dsimp only at hI ⊢
   refine⟨fun h9=>⟨fun h => ?_,fun _=>⟨fun hpos => ?_,fun hnp => ?_⟩⟩,fun h9 => ?_⟩
   · exfalso; simp[hr0]at h
   · simp only[gt_iff_lt,decide_eq_true_eq]at hpos
     rcases hI with⟨rfl,rfl,rfl,rfl,rfl⟩|⟨rfl,rfl,rfl,hA⟩
     rotate_left
     · exfalso; omega
     intro b1 V4 l4 hf hb
     have ed:IntKind.u8.wrap (IntKind.u32.wrap (48+Int.tmod (n:Int) 10))=((48+n:Nat):Int):=by
      have e1:Int.tmod (n:Int) 10=n:=by rw[Int.tmod_eq_emod_of_nonneg (by omega)]; omega
      rw[e1,u32w (by omega) (by omega)]
      have:∀n∈List.range 10,IntKind.u8.wrap (48+(n:Int))=((48+n:Nat):Int):=by decide
      exact this n (by simp; omega)
     rw[ed]at hb
     refine⟨[],[.int .u8 ((48+n:Nat):Int)],LstOk.nil,has_block hb,rfl,?_,by decide,by decide,fun c1 l3 hl3=>⟨⟨hr0,.inr ⟨rfl,?_,?_,hl3⟩⟩,?_⟩⟩
     · intro v hv; simp at hv; subst hv; rfl
     · show IntKind.u32.wrap (Int.tdiv (n:Int) 10)=0
       have e1:Int.tdiv (n:Int) 10=0:=by rw[Int.tdiv_eq_ediv_of_nonneg (by omega)]; omega
       rw[e1]; decide
     · show IntKind.i64.wrap (0+1)=1
       decide
     · show 1-(0+1)<1-0
       decide
   · simp only[gt_iff_lt,decide_eq_false_iff_not]at hnp
     rcases hI with⟨rfl,rfl,rfl,rfl,rfl⟩|⟨rfl,rfl,rfl,hA⟩
     · exfalso; omega
     · exact⟨.inr ⟨hr0,rfl,hA⟩,by show r1.len<t0.len; omega⟩
   · rcases hI with⟨rfl,rfl,rfl,rfl,rfl⟩|⟨rfl,rfl,rfl,hA⟩<;>exact absurd h9 (by simp)
 · simp only[gt_iff_lt,decide_eq_false_iff_not]at hz
   rcases hI with⟨hA,rfl,rfl,rfl⟩|⟨hA,rfl,hlo⟩
   · exfalso; have:=hA.len_zero; omega
   obtain⟨o',e⟩:=hlo.split
   have hc:=hlo.le
   refine⟨⟨by rw[e]; simp,⟨by omega,trivial⟩,trivial⟩,slices_Reverse_one.mono fun v l V7 l7 ⟨hv,hl⟩=>⟨hv,fun b4 V8 l8 hb => ?_⟩⟩
   rw[hl]at hb
   refine⟨[UInt8.ofNat (48+n)],?_,rfl,rfl,rfl⟩
   have hh:=has_block hb
   intro j v hj
   refine hh j v ?_
   rw[e]
   have ev:byteV (UInt8.ofNat (48+n)) = .int .u8 ((48+n:Nat):Int):=by
    unfold byteV
    have:∀n∈List.range 10,((UInt8.ofNat (48+n)).toNat:Int)=((48+n:Nat):Int):=by decide
    rw[this n (by simp; omega)]
   cases j with
   | zero =>
     simp only[List.map_cons,List.map_nil,List.getElem?_cons_zero,Option.some.injEq]at hj
     rw[←hj,ev]; rfl
   | succ j=>simp at hj
theorem small2:((1+1:Nat):Int)≤IntKind.i64.max:=by decide
theorem num_part_one {V:View} {x:WhV} {s:Sl} {a:Int} (hx:IntAt V x a) (hs:NatAt V s 1) (h0:a≠0) (h9:a.natAbs<10) :
 CallV Tryz.prog n_num_part #[x.val,s.v] V fun v _=>v = .string (if a<0 then ByteArray.mk #[45]++ByteArray.mk #[UInt8.ofNat (48+a.natAbs)]else ByteArray.mk #[UInt8.ofNat (48+a.natAbs)]):=by
 obtain⟨e1,e2,e3⟩:=Cq.ofInt_eqs a
 have hw:wn a.natAbs≤2^43:=by have:wn a.natAbs≤2:=wn_le_of_lt (by omega); omega
 have hw0:wn (0:Int).natAbs≤2^43:=by have:wn 0≤2:=wn_le_of_lt (by omega); simp; omega
 have hw1:wn 1≤2^43:=by have:wn 1≤2:=wn_le_of_lt (by omega); omega
 refine num_part_vc x s V _ ((num_over_spec hx (IntAt.zero V) hs (Rep.ofInt a) hw hw0 hw1).mono fun v V1 l1 ⟨r1,hv,hr⟩=>⟨r1,hv,?_⟩)
 have hre:=hr.re
 have hun:=hr.under
 rw[e1]at hre
 rw[e3,if_pos rfl]at hun
 have hul:r1.under.len=0:=hun.len_zero.2 rfl
 refine(nat_digits_one hre.2 (by omega) h9).mono fun v V2 l2 hv=>⟨_,hv,fun hneg=>⟨small2,fun h => ?_,fun _ => ?_⟩,fun hneg=>⟨fun h => ?_,fun _ => ?_⟩⟩
 · exfalso; simp[hul]at h
 · rw[hre.1]at hneg
   rw[if_pos (by simpa using hneg)]
 · exfalso; simp[hul]at h
 · rw[hre.1]at hneg
   rw[if_neg (by simpa using hneg)]
theorem eqAt_gate:Go.Vc.EqAt Tryz.prog TN_api_Gate ((GateV.mk 1 2).val) ((GateV.mk 1 2).val) true:=fun w=>by kernel_rfl
theorem awakeQ_eqs:(Cq.mk (-2) 2).A = -2∧(Cq.mk (-2) 2).B=2∧(Cq.mk (-2) 2).D=1 :=
 Canon.eqs ⟨⟨by omega,by simp only[]; rw[Rat.div_def]; grind,by simp only[]; rw[Rat.div_def]; grind⟩,by decide⟩
theorem small3:((1+1:Nat):Int)≤IntKind.i64.max:=by decide
theorem small4:((1+2:Nat):Int)≤IntKind.i64.max:=by decide
theorem small5:((2+3:Nat):Int)≤IntKind.i64.max:=by decide
theorem Num_Text_awake {V:View} {x:NumV} (h:NumAt V x ⟨-2,2⟩) :
 CallV Tryz.prog n_Num_Text #[x.val] V fun v _=>v = .string (ByteArray.mk #[45,50,43,50,105]):=by
 obtain⟨e1,e2,e3⟩:=awakeQ_eqs
 have hre:=h.re
 have him:=h.im
 rw[e1]at hre
 rw[e2]at him
 refine Num_Text_vc x V _ ((Num_Real_spec h).mono fun v V1 l1 hv=>⟨_,hv,fun hr => ?_,fun _ => ?_⟩)
 · exfalso
   simp at hr
 refine(Num_den_spec (h.le l1)).mono fun v V4 l4 ⟨r4,hv,h4⟩=>⟨r4,hv,?_⟩
 rw[e3]at h4
 refine(num_part_one (him.le (View.le_trans l1 l4)) h4 (by omega) (by decide)).mono fun v V5 l5 hv=>⟨_,hv,small3,fun h0 => ?_,fun _=>⟨fun _ => ?_,fun hn => ?_⟩⟩
 · exfalso
   have h0:x.re.mag.len=0:=by have:(x.re.mag.len:Int)=0:=(by simpa using h0); omega
   have:=hre.2.len_zero.1 h0
   omega
 · refine⟨small4,(Num_den_spec (h.le (View.le_trans l1 (View.le_trans l4 l5)))).mono fun v V6 l6 ⟨r6,hv,h6⟩=>⟨r6,hv,?_⟩⟩
   rw[e3]at h6
   refine(num_part_one (hre.le (View.le_trans l1 (View.le_trans l4 (View.le_trans l5 l6)))) h6 (by omega) (by decide)).mono fun v V7 l7 hv=>⟨_,hv,small5,?_⟩
   rfl
 · exfalso
   rw[him.1]at hn
   exact absurd hn (by decide)
def four:List RatV:=[⟨1,0,0⟩,⟨2,0,0⟩,⟨3,0,0⟩,⟨4,0,0⟩]
theorem four_ok:∀r∈four,ratI r:=by
 intro r hr
 simp only[four,List.mem_cons,List.not_mem_nil,or_false]at hr
 rcases hr with rfl|rfl|rfl|rfl<;>exact⟨⟨by decide,by decide⟩,⟨by decide,by decide⟩,⟨by decide,by decide⟩⟩
theorem four_sz:∀i,i<2^2→(nth (four.map ratQ) i).sz≤4:=by
 decide +kernel
theorem roots_sz:∀i,i<2^2→(nth (rootsQ 4) i).sz≤4:=by
 decide +kernel
theorem awake_stage:nth (stageF 2 (four.map ratQ) (rootsQ 4)) 1=⟨-2,2⟩:=by
 decide +kernel
theorem ratC_of (V:View) (a b c:Int):ratC V [.int .i64 a,.int .i64 b,.int .i64 c] ⟨a,b,c⟩:=by unfold ratC; rfl
theorem awake_spec {V:View}:CallV Tryz.prog n_waveportlaw07_awake #[] V fun v _=>v = .bool true:=by
 refine waveportlaw07_awake_vc V _ ((transform_Exact_spec (n:=4) (by omega)).mono fun v V1 l1 ⟨w,hv,hw⟩=>⟨w,0,hv,?_⟩)
 intro b V2 l2 hf hb
 have hrs:RatsAt V2 (Sl.mk (some (Addr.mk b 0 none)) 4 4) four :=
  ListAt.of_made (o:=[.int .i64 1,.int .i64 0,.int .i64 0]++([.int .i64 2,.int .i64 0,.int .i64 0]++([.int .i64 3,.int .i64 0,.int .i64 0]++([.int .i64 4,.int .i64 0,.int .i64 0]++[]))))
   (by simpa using hb) ⟨_,_,rfl,rfl,ratC_of _ _ _ _,_,_,rfl,rfl,ratC_of _ _ _ _,_,_,rfl,rfl,ratC_of _ _ _ _,_,_,rfl,rfl,ratC_of _ _ _ _,rfl⟩ rfl
 refine(law1_List_spec hrs four_ok (by decide)).mono fun v V3 l3 ⟨r3,hv,h3⟩=>⟨r3,hv,?_⟩
 refine(transform_Fast_spec (m:=2) 4 4 (by omega) rfl rfl h3 (hw.le (View.le_trans l2 l3)) four_sz roots_sz (by decide)).mono fun v V4 l4 ⟨r4,hv,h4⟩=>⟨r4,0,hv,?_⟩
 refine(transform_Rest_ok (g:=GateV.mk 3 2) (n:=4) (by decide) ⟨by decide,by decide,by decide,by decide⟩).mono fun v V5 l5 hv=>⟨GateV.mk 1 2,0,hv,?_⟩
 have hl:r4.len=4:=h4.len
 obtain⟨hb',x,hx,hs,hnx⟩:=(h4.le l5).get (t:=1) (by omega) (by show 1<4; omega)
 have e1:nth (stageF 2 (four.map ratQ) (rootsQ 4)) (Int.toNat 1)=⟨-2,2⟩:=awake_stage
 rw[e1]at hnx
 refine⟨fun _=>⟨fun _=>⟨fun _=>⟨fun _=>⟨hb',x,hx,hs,(Num_Text_awake hnx).mono fun v V6 l6 hv=>⟨_,hv,fun _=>⟨true,eqAt_gate,rfl⟩,fun h => ?_⟩⟩,fun h => ?_⟩,fun h => ?_⟩,fun h => ?_⟩,fun h => ?_⟩
 · simp at h
 · simp[hl]at h
 · simp at h
 · simp at h
 · simp at h
def smallR (r:RatV):RatV:=⟨Int.tmod r.re 21,Int.tmod r.im 21,((Int.tmod r.den 6).natAbs+1:Nat)⟩
def tame (r:RatV):Prop:=(-20≤r.re∧r.re≤20)∧(-20≤r.im∧r.im≤20)∧0≤r.den∧r.den≤6
theorem tame.ok {r:RatV} (h:tame r):ratI r:=by
 obtain⟨⟨a,b⟩,⟨c,d⟩,e,f⟩:=h
 exact⟨⟨by omega,by omega⟩,⟨by omega,by omega⟩,⟨by omega,by omega⟩⟩
theorem tmod_range (a:Int) {b:Int} (hb:0<b) : -b<Int.tmod a b∧Int.tmod a b<b:=by
 have h1:=Int.tmod_lt_of_pos a hb
 have h2:=Int.tmod_lt_of_pos (-a) hb
 rw[Int.neg_tmod]at h2
 omega
theorem smallR_tame (r:RatV):tame (smallR r):=by
 have h1:=tmod_range r.re (b:=21) (by omega)
 have h2:=tmod_range r.im (b:=21) (by omega)
 have h3:=tmod_range r.den (b:=6) (by omega)
 refine⟨⟨?_,?_⟩,⟨?_,?_⟩,?_,?_⟩<;>simp only[smallR]<;>omega
theorem tame_sz {r:RatV} (h:tame r):(ratQ r).sz≤5:=by
 obtain⟨⟨a,b⟩,⟨c,d⟩,e,f⟩:=h
 have key:Rep (ratQ r) r.re r.im (if r.den=0 then 1 else r.den.toNat):=by
  unfold ratQ
  split
  · refine⟨by omega,?_,?_⟩<;>simp only[]<;>rw[Rat.div_def]<;>simp<;>grind
  · have e:((r.den.toNat:Nat):Rat)=(r.den:Rat):=by
      have:((r.den.toNat:Nat):Int)=r.den:=by omega
      rw[←this]; rfl
    exact⟨by omega,by simp only[e],by simp only[e]⟩
 refine key.sz ?_ ?_ ?_
 · exact bl_le_of_lt (by omega)
 · exact bl_le_of_lt (by omega)
 · exact bl_le_of_lt (by split<;>omega)
theorem small_spec {V:View} (r:RatV):CallV Tryz.prog n_waveportlaw07_small #[r.val] V fun v _=>v=(smallR r).val:=by
 have h3:=tmod_range r.den (b:=6) (by omega)
 refine waveportlaw07_small_vc r V _ ⟨fun h => ?_,fun h => ?_⟩
 · simp only[decide_eq_true_eq]at h
   rw[i64w (n:=0-Int.tmod r.den 6) (by omega) (by omega),i64w (by omega) (by omega)]
   have e:0-Int.tmod r.den 6+1=(((Int.tmod r.den 6).natAbs+1:Nat):Int):=by omega
   rw[e]; rfl
 · simp only[decide_eq_false_iff_not]at h
   rw[i64w (by omega) (by omega)]
   have e:Int.tmod r.den 6+1=(((Int.tmod r.den 6).natAbs+1:Nat):Int):=by omega
   rw[e]; rfl
def rnth (rs:List RatV) (i:Nat):RatV:=rs.getD i ⟨0,0,0⟩
def rfilled (n k:Nat) (f:Nat→RatV):List RatV:=(List.range k).map f++List.replicate (n-k) ⟨0,0,0⟩
theorem rfilled_length {n k:Nat} (h:k≤n) (f:Nat→RatV):(rfilled n k f).length=n:=by simp[rfilled]; omega
theorem rfilled_set {n k:Nat} (h:k<n) (f:Nat→RatV):(rfilled n k f).set k (f k)=rfilled n (k+1) f:=by
 unfold rfilled
 rw[List.set_append_right _ _ (by simp)]
 simp only[List.length_map,List.length_range,Nat.sub_self]
 have:n-k=(n-(k+1))+1:=by omega
 rw[this,List.replicate_succ,List.set_cons_zero,List.range_succ,List.map_append]; simp
theorem conjugates_spec {V:View} {s:Sl} {zs:List Cq} (h:NumsAt V s zs) (hn:zs.length≤2^32) :
 CallV Tryz.prog n_transform_conjugates_num_Num_ #[s.v] V fun v V'=>∃r:Sl,v=r.v∧NumsAt V' r (conjF zs):=by
 have hl:=h.len
 refine transform_conjugates_num_Num__vc s V _ (fun _ x V'=>0≤x.t10∧x.t10≤s.len∧NumsIn V' x.o7 (filled s.len x.t10.toNat fun i=>(nth zs i).conj)) (fun _ x _=>s.len-x.t10.toNat)
  ⟨⟨by omega,by omega,by omega,by omega⟩,⟨Int.le_refl 0,Int.natCast_nonneg _,?_⟩,?_⟩
 · rw[Int.toNat_natCast]
   show NumsIn V _ (filled s.len 0 _)
   rw[filled_zero]; exact NumsIn.zeros _ _
 rintro⟨t,o⟩ V1 l1 ⟨h0,h1,ho⟩
 dsimp only at h0 h1 ho ⊢
 rw[Int.toNat_natCast]
 refine⟨fun hlt => ?_,fun hge => ?_⟩
 · simp only[decide_eq_true_eq]at hlt
   obtain⟨hb,x,hx,hs,hnx⟩:=(h.le l1).get h0 (by omega)
   refine⟨hb,x,hx,hs,(Num_Conj_spec hnx).mono fun v V2 l2 ⟨r,hv,hr⟩=>⟨r,hv,⟨h0,hlt⟩,Cells.room ho (by rw[filled_length (by omega)]; omega),?_⟩⟩
   have e:IntKind.i64.wrap (t+1)=t+1:=i64w (by omega) (by omega)
   have e2:(t+1).toNat=t.toNat+1:=by omega
   rw[e]
   refine⟨⟨by omega,by omega,?_⟩,by omega⟩
   rw[e2,←filled_set (by omega)]
   exact(ho.le l2).set (by rw[filled_length (by omega)]; omega) hr
 · simp only[decide_eq_false_iff_not]at hge
   intro b V3 l3 hb
   have e:t.toNat=s.len:=by omega
   rw[e,filled_all]at ho
   refine⟨_,rfl,ListAt.of_made (zs:=conjF zs) hb ?_ (by simp[conjF,hl])⟩
   unfold conjF
   rw[←hl]; exact ho.le l3
theorem of_spec {V:View} {p q:Int} (p0 : -9223372036854775808≤p) (p1:p≤9223372036854775807) (q0 : -9223372036854775808≤q) (q1:q≤9223372036854775807) (hq:q≠0) :
 CallV Tryz.prog n_transform_of_num_Num_ #[.int .i64 p,.int .i64 q] V fun v V'=>∃r:NumV,v=r.val∧NumAt V' r ⟨(p:Rat) / (q:Rat),((0:Int):Rat) / (q:Rat)⟩:=by
 refine transform_of_num_Num__vc p q V _ ((num_New_spec p0 p1 (by omega) (by omega) q0 q1 hq).mono fun v V1 l1 ⟨r,hv,hr⟩=>⟨r,0,hv,?_⟩)
 exact(Num_Of_spec hr).mono fun v V2 l2 ⟨r3,hv,h3⟩=>⟨r3,hv,r3,rfl,h3⟩
theorem shares_spec {V:View} {l:List Value} {zs:List Cq} {c:Nat} (h:NumsIn V l zs) (h1:1≤zs.length) (hn:zs.length≤64) (hS:∀i,i<zs.length→(nth zs i).sz≤2^39) :
 CallDS Tryz.prog n_transform_shares_num_Num_ (fun b=>(Value.slice (some ⟨b,0,none⟩) zs.length c::[]:List Value)) TN_num_Num l V fun l' V'=>NumsIn V' l' (sharesF zs):=by
 refine transform_shares_num_Num__vc 0 zs.length c l V _ (fun _ x V'=>0≤x.t10∧x.t10≤zs.length∧NumsIn V' x.o0 (patch zs.length x.t10.toNat (fun i=>nth zs i*partQ zs.length) (nth zs))) (fun _ x _=>zs.length-x.t10.toNat) ?_
 refine(of_spec (p:=1) (q:=(zs.length:Int)) (by omega) (by omega) (by omega) (by omega) (by omega)).mono fun v V1 l1 ⟨r1,hv,hr1⟩=>⟨r1,hv,⟨Int.le_refl 0,Int.natCast_nonneg _,?_⟩,?_⟩
 · show NumsIn V1 l (patch zs.length 0 _ _)
   rw[patch_zero]; exact h.le l1
 rintro⟨t,o⟩ V2 l2 ⟨h0,ht,ho⟩
 dsimp only at h0 ht ho ⊢
 refine⟨fun hlt => ?_,fun hge => ?_⟩
 · simp only[decide_eq_true_eq]at hlt
   have hk:t.toNat<zs.length:=by omega
   obtain⟨x,hx,hnx⟩:=ho.cut (i:=t.toNat) (by rw[patch_length]; exact hk)
   rw[patch_nth hk (Nat.le_refl _)]at hnx
   have hs:=partQ_sz h1 hn
   refine⟨⟨h0,hlt⟩,x,hx,(Num_Mul_spec hnx (hr1.le l2) (by have:=hS _ hk; omega) (by show(partQ zs.length).sz≤_; omega)).mono fun v V3 l3 ⟨r2,hv,hr2⟩=>⟨r2,hv,⟨h0,hlt⟩,Cells.room ho (by rw[patch_length]; exact hk),?_⟩⟩
   have e:IntKind.i64.wrap (t+1)=t+1:=i64w (by omega) (by omega)
   have e2:(t+1).toNat=t.toNat+1:=by omega
   rw[e]
   refine⟨⟨by omega,by omega,?_⟩,by omega⟩
   rw[e2,←patch_set hk]
   exact(ho.le l3).set (by rw[patch_length]; exact hk) hr2
 · simp only[decide_eq_false_iff_not]at hge
   have e:t.toNat=zs.length:=by omega
   rw[e,patch_all]at ho
   exact⟨⟨rfl,rfl,rfl⟩,ho⟩
theorem lenB_pow:∀m∈List.range 7,lenB (2^m)=true:=by decide
theorem FastBack_spec {V:View} {p w:Sl} {m:Nat} {zs ws:List Cq} (S T:Nat) (hm:m≤6) (hz:zs.length=2^m) (hw:ws.length=2^m) (hp:NumsAt V p zs) (hq:NumsAt V w ws)
 (hS:∀i,i<2^m→(nth zs i).sz≤S) (hT:∀i,i<2^m→(nth ws i).sz≤T) (hsz:64*(S+T+2)≤2^39) :
 CallV Tryz.prog n_transform_FastBack_num_Num_ #[p.v,w.v] V fun v V'=>∃r:Sl,v = .tuple #[r.v,.int .i64 0]∧NumsAt V' r (sharesF (stageF m zs (conjF ws))):=by
 have hl:lenB (2^m)=true:=lenB_pow m (by simp; omega)
 have hb:=lenB_le hl
 have hpl:=hp.len
 have hwl:=hq.len
 refine transform_FastBack_num_Num__vc p w V _ ((transform_fits_spec p w).mono fun v V1 l1 hv=>⟨_,hv,fun h => ?_,fun _ => ?_⟩)
 · exfalso
   rw[hwl,hw,hl,hpl,hz]at h; simp at h
 refine(conjugates_spec (hq.le l1) (by omega)).mono fun v V2 l2 ⟨r2,hv,h2⟩=>⟨r2,hv,?_⟩
 have hcl:(conjF ws).length=2^m:=by rw[conjF_length,hw]
 have hT2:=conjF_sz ws T (by rw[hw]; exact hT)
 rw[hw]at hT2
 have hfs:=stageF_sz m zs (conjF ws) S T hz hcl hS hT2
 have hmul:2^m*(S+T+2)≤64*(S+T+2):=Nat.mul_le_mul_right _ hb.2
 refine(transform_stage_owned m S T hm hz hcl (hp.le (View.le_trans l1 l2)) h2 hS hT2 (by omega)).mono fun n c l rest V3 l3 ⟨hn,hc,hr,hin⟩=>⟨hr,?_⟩
 have hfl:=stageF_length m zs (conjF ws)
 have hlne:l≠[]:=by
  intro e; subst e
  have:=Cells.length hin
  rw[hfl]at this
  simp at this; omega
 refine⟨⟨by omega,hlne⟩,?_⟩
 subst hn
 refine(shares_spec (c:=c) hin (by omega) (by omega) (by rw[hfl]; intro i hi; have:=hfs i hi; omega)).mono fun l2' V4 l4 h4 => ?_
 intro b V5 l5 hb5
 refine⟨_,rfl,?_⟩
 rw[hc]
 exact ListAt.of_made hb5 (h4.le l5) (by rw[sharesF_length])
theorem QsAt.of_made {V:View} {b n:Nat} {o:List Value} {zs:List Cq} (hb:V b=some o.toArray) (h:QsIn V o zs) (hn:n=zs.length):QsAt V ⟨some ⟨b,0,none⟩,n,n⟩ zs:=ListAt.of_made hb h hn
theorem q_len5 (r:NumV):[Value.bool r.re.neg,r.re.mag.v,.bool r.im.neg,r.im.mag.v,r.under.v].length=5:=rfl
theorem ref1_Of_spec {V:View} {r:RatV} (h:ratI r):CallV Tryz.prog n_ref1_Of #[r.val] V fun v V'=>∃x:NumV,v=x.val∧QAt V' x (ratQ r):=by
 obtain⟨⟨a1,a2⟩,⟨b1,b2⟩,⟨c1,c2⟩⟩:=h
 refine ref1_Of_vc r V _ ⟨fun hd => ?_,fun hd => ?_⟩
 · have hd:r.den=0:=by simpa using hd
   refine(ref1_New_spec a1 a2 b1 b2 (by omega) (by omega) (by omega)).mono fun v V1 _ ⟨x,hv,hx⟩=>⟨x,0,hv,x,rfl,?_⟩
   have e:ratQ r=⟨((r.re:Int):Rat) / ((1:Int):Rat),((r.im:Int):Rat) / ((1:Int):Rat)⟩:=by
    unfold ratQ; rw[if_pos hd]
    exact Cq.ext' (by simp only[]; grind) (by simp only[]; grind)
   rw[e]; exact hx
 · have hd:r.den≠0:=by simpa using hd
   refine(ref1_New_spec a1 a2 b1 b2 c1 c2 hd).mono fun v V1 _ ⟨x,hv,hx⟩=>⟨x,0,hv,x,rfl,?_⟩
   have e:ratQ r=⟨((r.re:Int):Rat) / ((r.den:Int):Rat),((r.im:Int):Rat) / ((r.den:Int):Rat)⟩:=by
    unfold ratQ; rw[if_neg hd]
   rw[e]; exact hx
theorem refList_spec {V:View} {s:Sl} {rs:List RatV} (h:RatsAt V s rs) (hi:∀r∈rs,ratI r) (hn:rs.length≤2^32) :
 CallV Tryz.prog n_waveportlaw07_refList #[s.v] V fun v V'=>∃r:Sl,v=r.v∧QsAt V' r (rs.map ratQ):=by
 have hl:=h.len
 let F:Nat→Cq:=fun k=>nth (rs.map ratQ) k
 refine waveportlaw07_refList_vc s V _ (fun _ x V'=>∃k:Nat,x.t11=(k:Int)∧k≤rs.length∧OptIn qC V' x.o8 rs.length (fun p=>if p<k then some (F p)else none)) (fun _ x _=>(rs.length-x.t11).toNat) ?_
 rw[hl,Int.toNat_natCast]
 refine⟨⟨by omega,by omega,by omega,by omega⟩,⟨0,rfl,by omega,(OptIn.zeros qC V _).congr fun p _=>by simp⟩,?_⟩
 rintro⟨t,o⟩ V1 l1 ⟨k,rfl,hk,ho⟩
 dsimp only at ho ⊢
 refine⟨fun hlt => ?_,fun hge b V3 l3 hb => ?_⟩
 · simp only[decide_eq_true_eq]at hlt
   have hk':k<rs.length:=by omega
   obtain⟨hb,x,hx,_,hh,hs⟩:=ListAt.get (h.le l1) (t:=(k:Int)) (by omega) (z:=rs[k]) (by simp[hk'])
   rw[hl]at hb
   refine⟨hb,rs[k],hx▸hh,hs,(ref1_Of_spec (hi _ (List.getElem_mem _))).mono fun v V2 l2 ⟨r,hv,hr⟩=>⟨r,hv,⟨by omega,by omega⟩,?_⟩⟩
   simp only[Int.toNat_natCast]
   rw[i64w (by omega) (by omega)]
   have ho2:=ho.le (qC.le l2)
   refine⟨ho2.room hk',⟨k+1,by omega,by omega,(ho2.set hk' (q_len5 r) (z:=F k) ?_).congr fun p _ => ?_⟩,by omega⟩
   · have e:F k=ratQ rs[k]:=by simp[F,nth,List.getD,hk']
     rw[e]; exact⟨r,rfl,hr⟩
   · by_cases c:p=k
     · subst c; simp
     · rw[if_neg c]
       by_cases c2:p<k
       · rw[if_pos c2,if_pos (by omega)]
       · rw[if_neg c2,if_neg (by omega)]
 · simp only[decide_eq_false_iff_not]at hge
   have hk':k=rs.length:=by omega
   subst hk'
   have ha:=(ho.le (qC.le l3)).all (F:=F) fun p hp=>by rw[if_pos hp]
   have e:(List.range rs.length).map F=rs.map ratQ:=by
    have:=list_of_nth (rs.map ratQ)
    rw[List.length_map]at this; exact this
   rw[e]at ha
   exact⟨_,rfl,QsAt.of_made hb ha (by simp)⟩
theorem Length_spec {V:View} (n:Int):CallV Tryz.prog n_waveportref07_Length #[.int .i64 n] V fun v _=>v = .bool (lenB n.toNat):=by
 refine waveportref07_Length_vc n V _ (fun _ x _=>∃j:Nat,x.t3=((2^j:Nat):Int)∧j≤7∧∀i,i<j→n≠((2^i:Nat):Int)) (fun _ x _=>(128-x.t3).toNat) ⟨⟨0,rfl,by omega,fun i hi=>by omega⟩,?_⟩
 rintro⟨t⟩ V1 l1 ⟨j,rfl,hj,hne⟩
 dsimp only
 have hp:2^j≤2^7:=Nat.pow_le_pow_right (by omega) hj
 have hp1:1≤2^j:=Nat.pow_pos (by omega)
 refine⟨fun hle=>⟨fun he => ?_,fun he => ?_⟩,fun hgt => ?_⟩
 · simp only[decide_eq_true_eq]at hle
   have he:n=((2^j:Nat):Int):=by simpa using he
   rw[he,Int.toNat_natCast]
   have hj6:j≤6:=by
    rcases Nat.lt_or_ge j 7 with h|h
    · omega
    · have:j=7:=by omega
      subst this
      exfalso; revert hle; decide
   rw[lenB_pow j (by simp; omega)]
 · have he:n≠((2^j:Nat):Int):=by simpa using he
   have e2:((2^j:Nat):Int)*2=((2^(j+1):Nat):Int):=by rw[Nat.pow_succ]; omega
   simp only[decide_eq_true_eq]at hle
   rw[e2,i64w (by omega) (by rw[Nat.pow_succ]; omega)]
   have hj6:j≤6:=by
    rcases Nat.lt_or_ge j 7 with h|h
    · omega
    · have:j=7:=by omega
      subst this
      exfalso; revert hle; decide
   refine⟨⟨j+1,rfl,by omega,fun i hi => ?_⟩,by rw[Nat.pow_succ]; omega⟩
   rcases Nat.lt_or_ge i j with h|h
   · exact hne i h
   · have:i=j:=by omega
     subst this; exact he
 · simp only[decide_eq_false_iff_not]at hgt
   have hj7:j=7:=by
    rcases Nat.lt_or_ge j 7 with h|h
    · have:2^j≤2^6:=Nat.pow_le_pow_right (by omega) (by omega)
      omega
    · omega
   subst hj7
   have:lenB n.toNat=false:=by
    cases hb:lenB n.toNat with
    | false=>rfl
    | true =>
      exfalso
      obtain⟨h1,h2⟩:=lenB_le hb
      have hmem:n.toNat∈[1,2,4,8,16,32,64]:=by
       unfold lenB at hb; exact List.contains_iff_mem.1 hb
      have hn:n=(n.toNat:Int):=by omega
      simp only[List.mem_cons,List.not_mem_nil,or_false]at hmem
      rcases hmem with h|h|h|h|h|h|h
      · exact hne 0 (by omega) (by rw[hn,h])
      · exact hne 1 (by omega) (by rw[hn,h])
      · exact hne 2 (by omega) (by rw[hn,h])
      · exact hne 3 (by omega) (by rw[hn,h])
      · exact hne 4 (by omega) (by rw[hn,h])
      · exact hne 5 (by omega) (by rw[hn,h])
      · exact hne 6 (by omega) (by rw[hn,h])
   rw[this]
end Go.Proofs.YtfdaofhjkdabbaaGreat
