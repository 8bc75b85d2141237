/- Part. -/
import Derived.Test.YtfdaofhjkdabbaaGreatPartC
import Derived.Deep.Slices
namespace Go.Proofs.YtfdaofhjkdabbaaGreat
open Go Go.Vc Go.Proofs
open Go.Proofs.Tryz (prog)
open Go.IntKind (i64 u64 u32 u8)
theorem K0g {V:View} {s t:Sl} {a b:Nat} (hs:x00 V s a) (ht:x00 V t b) (ha:wn a≤2^43) (hb:wn b≤2^43) :
 a00 prog N0s #[s.v,t.v] V fun v V'=>∃r:Sl,v=r.v∧x00 V' r (Nat.gcd a b):=by
 refine w0r s t V _ (fun _ x V'=>∃a' b',x00 V' x.t0 a'∧x00 V' x.t1 b'∧wn a'≤2^43∧wn b'≤2^43∧Nat.gcd a' b'=Nat.gcd a b) (fun _ x V'=>c0e V' x.t1) ⟨⟨a,b,hs,ht,ha,hb,rfl⟩,?_⟩
 rintro⟨x,y⟩ V1 l1 ⟨a',b',hx,hy,wa,wb,hg⟩
 simp only at hx hy ⊢
 have hyl:=hy.len
 refine⟨fun hp => ?_,fun hp => ?_⟩
 · simp only[gt_iff_lt,decide_eq_true_eq]at hp
   have hb0:b'≠0:=fun e=>by rw[←hy.len_zero]at e; omega
   refine(m0a hx hy wa hb0).mono fun v V2 l2 ⟨q,r,hv,hq,hr⟩=>⟨q,r,hv,?_⟩
   have hlt:a'%b'<b':=Nat.mod_lt _ (by omega)
   have hwr:wn (a'%b')≤wn b':=D0a (Nat.le_of_lt hlt)
   refine⟨⟨b',a'%b',hy.le l2,hr,wb,by omega,?_⟩,?_⟩
   · rw[Nat.gcd_comm,←Nat.gcd_rec,Nat.gcd_comm]; exact hg
   · rw[J08 hr,J08 hy]; exact hlt
 · simp only[gt_iff_lt,decide_eq_false_iff_not]at hp
   have hb0:b'=0:=hy.len_zero.1 (by omega)
   subst hb0
   rw[Nat.gcd_zero_right]at hg
   exact⟨x,rfl,by rw[←hg]; exact hx⟩
theorem m05 {V:View} {s:Sl} {n:Nat} (neg:Bool) (h:x00 V s n) :
 a00 prog G0k #[.bool neg,s.v] V fun v V'=>∃r:WhV,v=r.val∧y03 V' r (if neg=true then -(n:Int)else n):=by
 have hl:=h.len_zero
 refine X0i neg s V _ ⟨fun hn=>⟨_,rfl,?_,?_⟩,fun hn=>⟨_,rfl,?_,?_⟩⟩
 · rw[if_pos hn]; simp only[gt_iff_lt,decide_eq_decide]; omega
 · rw[if_pos hn]; simpa using h
 · rw[if_neg (by simp[hn])]; symm; simp only[decide_eq_false_iff_not]; omega
 · rw[if_neg (by simp[hn])]; simpa using h
theorem x09 {V:View} {n:Int} (h0 : -9223372036854775808≤n) (h1:n≤9223372036854775807) :
 a00 prog a0r #[.int .i64 n] V fun v V'=>∃r:WhV,v=r.val∧y03 V' r n:=by
 refine M0o n V _ ⟨fun hn => ?_,fun hn => ?_⟩
 · simp only[decide_eq_true_eq]at hn
   have e:u64.wrap (0-u64.wrap n) = -n:=by rw[u64m,u64m]; omega
   rw[e]
   refine(G0a (by omega) (by omega)).mono fun v V1 _ ⟨r,hv,hr⟩=>⟨r,hv,_,rfl,by simp[hn],?_⟩
   have e2:n.natAbs=(-n).toNat:=by omega
   rw[e2]; exact hr
 · simp only[decide_eq_false_iff_not]at hn
   rw[u64w (by omega) (by omega)]
   refine(G0a (by omega) (by omega)).mono fun v V1 _ ⟨r,hv,hr⟩=>⟨r,hv,_,rfl,by simp[hn],?_⟩
   have e2:n.natAbs=n.toNat:=by omega
   rw[e2]; exact hr
theorem P03 {V:View} {x:WhV} {a:Int} (h:y03 V x a) :
 a00 prog H0k #[x.val] V fun v V'=>∃r:WhV,v=r.val∧y03 V' r (-a):=by
 refine Y0i x V _ ((m05 (!x.neg) h.2).mono fun v V1 _ ⟨r,hv,hr⟩=>⟨r,hv,r,rfl,?_⟩)
 have e:(if(!x.neg)=true then -(a.natAbs:Int)else(a.natAbs:Int)) = -a:=by
  rw[h.1]; simp only[Bool.not_eq_true',decide_eq_false_iff_not]; split<;>omega
 rw[e]at hr; exact hr
theorem N05 {V:View} {x y:WhV} {a b:Int} (hx:y03 V x a) (hy:y03 V y b) (ha:wn a.natAbs≤2^43) (hb:wn b.natAbs≤2^43) :
 a00 prog B0m #[x.val,y.val] V fun v V'=>∃r:WhV,v=r.val∧y03 V' r (a+b):=by
 have h1:=hx.1
 have h2:=hy.1
 refine X0k x y V _ ⟨fun hs => ?_,fun hs => ?_⟩
 · refine(x0n hx.2 hy.2 (by omega) (by omega)).mono fun v V1 l1 ⟨r,hv,hr⟩=>⟨r,hv,?_⟩
   refine(m05 x.neg hr).mono fun v V2 _ ⟨w,hv,hw⟩=>⟨w,hv,w,rfl,?_⟩
   have e:(if x.neg=true then -((a.natAbs+b.natAbs:Nat):Int)else((a.natAbs+b.natAbs:Nat):Int))=a+b:=by
    rw[h1,h2]at hs; rw[h1]
    by_cases p:a<0<;>by_cases q:b<0<;>simp[p,q]at hs ⊢<;>omega
   rw[e]at hw; exact hw
 · refine(U0c hx.2 hy.2 (by omega)).mono fun v V1 l1 hv=>⟨_,hv,fun hc => ?_,fun hc => ?_⟩
   · have hc:b.natAbs≤a.natAbs:=by
       rcases Nat.lt_or_ge a.natAbs b.natAbs with h|h
       · rw[if_pos h]at hc; simp at hc
       · exact h
     refine(H0g (hx.2.le l1) (hy.2.le l1) (by omega) hc).mono fun v V2 l2 ⟨r,hv,hr⟩=>⟨r,hv,?_⟩
     refine(m05 x.neg hr).mono fun v V3 _ ⟨w,hv,hw⟩=>⟨w,hv,w,rfl,?_⟩
     have e:(if x.neg=true then -((a.natAbs-b.natAbs:Nat):Int)else((a.natAbs-b.natAbs:Nat):Int))=a+b:=by
      rw[h1,h2]at hs; rw[h1]
      by_cases p:a<0<;>by_cases q:b<0<;>simp[p,q]at hs ⊢<;>omega
     rw[e]at hw; exact hw
   · have hc:a.natAbs≤b.natAbs:=by
       rcases Nat.lt_or_ge b.natAbs a.natAbs with h|h
       · rw[if_neg (by omega),if_neg (by omega)]at hc; simp at hc
       · exact h
     refine(H0g (hy.2.le l1) (hx.2.le l1) (by omega) hc).mono fun v V2 l2 ⟨r,hv,hr⟩=>⟨r,hv,?_⟩
     refine(m05 y.neg hr).mono fun v V3 _ ⟨w,hv,hw⟩=>⟨w,hv,w,rfl,?_⟩
     have e:(if y.neg=true then -((b.natAbs-a.natAbs:Nat):Int)else((b.natAbs-a.natAbs:Nat):Int))=a+b:=by
      rw[h1,h2]at hs; rw[h2]
      by_cases p:a<0<;>by_cases q:b<0<;>simp[p,q]at hs ⊢<;>omega
     rw[e]at hw; exact hw
theorem j0q (x y a b:Int) (hx:x=if a<0 then -1 else 1) (hy:y=if b<0 then -1 else 1):a*b=x*y*(a.natAbs*b.natAbs:Nat):=by
 have ha:a=x*a.natAbs:=by rw[hx]; split<;>omega
 have hb:b=y*b.natAbs:=by rw[hy]; split<;>omega
 rw[Int.natCast_mul]
 conv=>lhs; rw[ha,hb]
 grind
theorem n05 {V:View} {x y:WhV} {a b:Int} (hx:y03 V x a) (hy:y03 V y b) (ha:wn a.natAbs≤2^43) (hb:wn b.natAbs≤2^43) :
 a00 prog I0k #[x.val,y.val] V fun v V'=>∃r:WhV,v=r.val∧y03 V' r (a*b):=by
 refine Z0i x y V _ ((M08 hx.2 hy.2 (by omega) (by omega)).mono fun v V1 l1 ⟨r,hv,hr⟩=>⟨r,hv,?_⟩)
 refine(m05 (!(x.neg==y.neg)) hr).mono fun v V2 _ ⟨w,hv,hw⟩=>⟨w,hv,w,rfl,?_⟩
 have e:(if(!(x.neg==y.neg))=true then -((a.natAbs*b.natAbs:Nat):Int)else((a.natAbs*b.natAbs:Nat):Int))=a*b:=by
  rw[j0q _ _ a b rfl rfl,hx.1,hy.1]
  by_cases p:a<0<;>by_cases q:b<0<;>simp[p,q]
 rw[e]at hw; exact hw
theorem z02 {V:View} {x:WhV} {s:Sl} {a:Int} {n:Nat} (hx:y03 V x a) (hs:x00 V s n) (ha:wn a.natAbs≤2^43) (hb:wn n≤2^43) :
 a00 prog Q0i #[x.val,s.v] V fun v V'=>∃r:WhV,v=r.val∧y03 V' r (a*n):=by
 refine T0h x s V _ ((M08 hx.2 hs (by omega) (by omega)).mono fun v V1 l1 ⟨r,hv,hr⟩=>⟨r,hv,?_⟩)
 refine(m05 x.neg hr).mono fun v V2 _ ⟨w,hv,hw⟩=>⟨w,hv,w,rfl,?_⟩
 have e:(if x.neg=true then -((a.natAbs*n:Nat):Int)else((a.natAbs*n:Nat):Int))=a*n:=by
  conv=>rhs; rw[hx.val]
  rw[Int.natCast_mul]; split
  · rw[Int.neg_mul]
  · rfl
 rw[e]at hw; exact hw
theorem w08 {V:View} {x y:WhV} {a b:Int} (hx:y03 V x a) (hy:y03 V y b) (ha:wn a.natAbs≤2^43) (hb:wn b.natAbs≤2^43) :
 a00 prog w0o #[x.val,y.val] V fun v _=>v = .int .i64 (cmpZ a b):=by
 refine L0m x y V _ ((P03 hy).mono fun v V1 l1 ⟨r,hv,hr⟩=>⟨r,hv,?_⟩)
 refine(N05 (hx.le l1) hr ha (by rw[Int.natAbs_neg]; exact hb)).mono fun v V2 l2 ⟨w,hv,hw⟩=>⟨w,hv,fun h => ?_,fun h => ?_⟩
 · have:a + -b<0:=by have:=hw.1; rw[h]at this; simpa using this
   rw[b0t (by omega)]
 · have h1:¬a + -b<0:=by have:=hw.1; rw[h]at this; simpa using this
   have h2:=hw.2.len_zero
   by_cases e:a=b
   · have:w.mag.len=0:=h2.2 (by omega)
     rw[c0t e,this]; rfl
   · have:w.mag.len≠0:=fun h=>by have:=h2.1 h; omega
     rw[d0t (by omega)]
     congr 1; split<;>omega
theorem X05 {V:View} {x y:WhV} {s:Sl} {z:Cq} {a b:Int} {d:Nat} (hx:y03 V x a) (hy:y03 V y b) (hs:x00 V s d) (hz:Rep z a b d) (ha:wn a.natAbs≤2^43) (hb:wn b.natAbs≤2^43) (hd:wn d≤2^43) :
 a00 prog g0r #[x.val,y.val,s.v] V fun v V'=>∃r:NumV,v=r.val∧c01 V' r z:=by
 obtain⟨e1,e2,e3⟩:=hz.eqs
 have hp:=n0h a b hz.pos
 have d1:=K0c a b d
 have d2:=i0f a b d
 have d3:=e0i a b d
 refine N0o x y s V _ ((K0g hx.2 hy.2 ha hb).mono fun v V1 l1 ⟨r1,hv,h1⟩=>⟨r1,hv,?_⟩)
 have hw1:wn (Nat.gcd a.natAbs b.natAbs)≤2^43:=by
  rcases Nat.eq_zero_or_pos a.natAbs with h|h
  · rw[h,Nat.gcd_zero_left]; exact hb
  · exact Nat.le_trans (D0a (Nat.le_of_dvd h (Nat.gcd_dvd_left _ _))) ha
 refine(K0g h1 (hs.le l1) hw1 hd).mono fun v V2 l2 ⟨r2,hv,h2⟩=>⟨r2,hv,?_⟩
 have hg:Nat.gcd (Nat.gcd a.natAbs b.natAbs) d=gcd3 a b d:=rfl
 rw[hg]at h2
 refine(T0c h2).mono fun v V3 l3 hv=>⟨_,hv,fun hn => ?_,fun hn => ?_⟩
 · have l13:=View.le_trans l1 (View.le_trans l2 l3)
   refine(m0a (hx.2.le l13) (h2.le l3) ha (by omega)).mono fun v V4 l4 ⟨q1,m1,hv,hq1,_⟩=>⟨q1,m1,hv,?_⟩
   refine(m0a (hy.2.le (View.le_trans l13 l4)) (h2.le (View.le_trans l3 l4)) hb (by omega)).mono fun v V5 l5 ⟨q2,m2,hv,hq2,_⟩=>⟨q2,m2,hv,?_⟩
   have l45:=View.le_trans l4 l5
   refine(m0a (hs.le (View.le_trans l13 l45)) (h2.le (View.le_trans l3 l45)) hd (by omega)).mono fun v V6 l6 ⟨q3,m3,hv,hq3,_⟩=>⟨q3,m3,hv,?_⟩
   have f1:y03 V6 (WhV.mk x.neg q1) z.A:=⟨by rw[e1,O09 d1 hp]; exact hx.1,by rw[e1,F06 d1]; exact hq1.le (View.le_trans l5 l6)⟩
   have f2:y03 V6 (WhV.mk y.neg q2) z.B:=⟨by rw[e2,O09 d2 hp]; exact hy.1,by rw[e2,F06 d2]; exact hq2.le l6⟩
   refine(T0c hq3).mono fun v V7 l7 hv=>⟨_,hv,fun h=>⟨_,rfl,f1.le l7,f2.le l7,?_⟩,fun h=>⟨_,rfl,f1.le l7,f2.le l7,?_⟩⟩
   · simp only[decide_eq_true_eq]at h
     rw[e3,if_pos h]; exact x00.zero V7
   · simp only[decide_eq_false_iff_not]at h
     rw[e3,if_neg h]; exact hq3.le l7
 · simp only[Bool.not_eq_false',decide_eq_true_eq]at hn
   rw[hn]at e1 e2 e3
   simp only[Int.natCast_one,Int.ediv_one]at e1 e2
   rw[Nat.div_one]at e3
   have l13:=View.le_trans l1 (View.le_trans l2 l3)
   refine(T0c (hs.le l13)).mono fun v V7 l7 hv=>⟨_,hv,fun h=>⟨_,rfl,?_,?_,?_⟩,fun h=>⟨_,rfl,?_,?_,?_⟩⟩
   · rw[e1]; exact hx.le (View.le_trans l13 l7)
   · rw[e2]; exact hy.le (View.le_trans l13 l7)
   · simp only[decide_eq_true_eq]at h
     rw[e3,if_pos h]; exact x00.zero V7
   · rw[e1]; exact hx.le (View.le_trans l13 l7)
   · rw[e2]; exact hy.le (View.le_trans l13 l7)
   · simp only[decide_eq_false_iff_not]at h
     rw[e3,if_neg h]; exact hs.le (View.le_trans l13 l7)
theorem P02 {V:View} {x:NumV} {z:Cq} (h:c01 V x z):a00 prog H0s #[x.val] V fun v V'=>∃r:Sl,v=r.v∧x00 V' r z.D:=by
 have hu:=h.under
 have hl:=hu.len_zero
 have hD:=z.D_pos
 refine x0r x V _ ⟨fun h0 => ?_,fun h0 => ?_⟩
 · have h0:x.under.len=0:=by have:(x.under.len:Int)=0:=(by simpa using h0); omega
   intro b V1 l1 _ hb
   have hz:=hl.1 h0
   have h1:z.D=1:=by split at hz<;>omega
   refine⟨_,rfl,?_⟩
   rw[h1]
   have:dig 1=[1]:=by rw[l06 (by omega)]; simp[P04]
   unfold x00; rw[this]
   exact P01.of_block (by rw[hb]; rfl) rfl (Nat.le_refl _) (by intro d hd; simp at hd; omega)
 · have h0:x.under.len≠0:=by have:¬(x.under.len:Int)=0:=(by simpa using h0); omega
   refine⟨_,rfl,?_⟩
   have hz:¬(if z.D=1 then 0 else z.D)=0:=fun e=>h0 (hl.2 e)
   split at hz
   · omega
   · rename_i h1; rw[if_neg h1]at hu; exact hu
theorem Y0c {V:View} {n:Int} (h0 : -9223372036854775808≤n) (h1:n≤9223372036854775807) :
 a00 prog q0m #[.int .i64 n] V fun v V'=>∃r:NumV,v=r.val∧c01 V' r ⟨(n:Rat),0⟩:=by
 obtain⟨e1,e2,e3⟩:=j0d n
 refine y0r n V _ ((x09 h0 h1).mono fun v V1 _ ⟨r,hv,hr⟩=>⟨r,hv,_,rfl,by rw[e1]; exact hr,by rw[e2]; exact y03.zero _,by rw[e3]; exact x00.zero _⟩)
theorem wn64 {n:Nat} (h:n≤18446744073709551615):wn n≤2^43:=by
 have:wn n≤2:=C05 (by omega)
 omega
theorem L0g {V:View} {p q d:Int} (p0 : -9223372036854775808≤p) (p1:p≤9223372036854775807) (q0 : -9223372036854775808≤q) (q1:q≤9223372036854775807) (d0 : -9223372036854775808≤d) (d1:d≤9223372036854775807) (hd:d≠0) :
 a00 prog I0s #[.int .i64 p,.int .i64 q,.int .i64 d] V fun v V'=>∃r:NumV,v = .tuple #[r.val,.int .i64 0]∧c01 V' r ⟨(p:Rat) / (d:Rat),(q:Rat) / (d:Rat)⟩:=by
 refine z0r p q d V _ ⟨fun h => ?_,fun _ => ?_⟩
 · exact absurd (by simpa using h) hd
 refine(x09 p0 p1).mono fun v V1 l1 ⟨a,hv,ha⟩=>⟨a,hv,?_⟩
 refine(x09 q0 q1).mono fun v V2 l2 ⟨b,hv,hb⟩=>⟨b,hv,?_⟩
 refine(x09 d0 d1).mono fun v V3 l3 ⟨c,hv,hc⟩=>⟨c,hv,fun hn => ?_,fun hn => ?_⟩
 · have hneg:d<0:=by have:=hc.1; rw[hn]at this; simpa using this.symm
   refine(P03 (ha.le (View.le_trans l2 l3))).mono fun v V4 l4 ⟨a',hv,ha'⟩=>⟨a',hv,?_⟩
   refine(P03 (hb.le (View.le_trans l3 l4))).mono fun v V5 l5 ⟨b',hv,hb'⟩=>⟨b',hv,?_⟩
   refine(X05 (ha'.le l5) hb' (hc.2.le (View.le_trans l4 l5)) ?_ (wn64 (by omega)) (wn64 (by omega)) (wn64 (by omega))).mono fun v V6 l6 ⟨r,hv,hr⟩=>⟨r,hv,r,rfl,hr⟩
   have e:((d.natAbs:Nat):Rat) = -(d:Rat):=by
    have:(d.natAbs:Int) = -d:=by omega
    rw[←Rat.intCast_natCast,this]; push_cast; rfl
   refine⟨by omega,?_,?_⟩<;>(simp only[e]; push_cast; rw[Rat.div_def,Rat.div_def]; grind)
 · have hpos:¬d<0:=by have:=hc.1; rw[hn]at this; simpa using this.symm
   refine(X05 (ha.le (View.le_trans l2 l3)) (hb.le l3) hc.2 ?_ (wn64 (by omega)) (wn64 (by omega)) (wn64 (by omega))).mono fun v V6 l6 ⟨r,hv,hr⟩=>⟨r,hv,r,rfl,hr⟩
   have e:((d.natAbs:Nat):Rat)=(d:Rat):=by
    have:(d.natAbs:Int)=d:=by omega
    rw[←Rat.intCast_natCast,this]
   refine⟨by omega,?_,?_⟩<;>simp only[e]
theorem Cq.wA {z:Cq} (h:z.sz≤2^40):wn z.A.natAbs≤2^35:=g0i (by have:=z.szA; omega)
theorem Cq.wB {z:Cq} (h:z.sz≤2^40):wn z.B.natAbs≤2^35:=g0i (by have:=z.szB; omega)
theorem Cq.wD {z:Cq} (h:z.sz≤2^40):wn z.D≤2^35:=g0i (by have:=z.szD; omega)
theorem A04 {a b:Int} {k:Nat} (ha:wn a.natAbs≤k) (hb:wn b.natAbs≤k):wn (a*b).natAbs≤2*k:=by
 rw[Int.natAbs_mul]; have:=N09 a.natAbs b.natAbs; omega
theorem K0b {a b:Int} {k:Nat} (ha:wn a.natAbs≤k) (hb:wn b.natAbs≤k):wn (a+b).natAbs≤k+1:=by
 have:=D0a (Int.natAbs_add_le a b); have:=W0s a.natAbs b.natAbs; omega
theorem G0t {a:Int} {k:Nat} (ha:wn a.natAbs≤k):wn (-a).natAbs≤k:=by rw[Int.natAbs_neg]; exact ha
theorem z06 {V:View} {x y:NumV} {z w:Cq} (hx:c01 V x z) (hy:c01 V y w) (hz:z.sz≤2^40) (hw:w.sz≤2^40) :
 a00 prog G0s #[x.val,y.val] V fun v V'=>∃r:NumV,v=r.val∧c01 V' r (z+w):=by
 have zA:=Cq.wA hz; have zB:=Cq.wB hz; have zD:=Cq.wD hz
 have wA:=Cq.wA hw; have wB:=Cq.wB hw; have wD:=Cq.wD hw
 have zD':wn (z.D:Int).natAbs≤2^35:=zD
 have wD':wn (w.D:Int).natAbs≤2^35:=wD
 have s1:=A04 zA wD'; have s2:=A04 wA zD'; have s3:=A04 zB wD'; have s4:=A04 wB zD'
 have s5:=K0b s1 s2; have s6:=K0b s3 s4
 have s7:=N09 z.D w.D
 refine A0r x y V _ ((P02 hx).mono fun v V1 l1 ⟨r1,hv,h1⟩=>⟨r1,hv,?_⟩)
 replace hx:=hx.le l1; replace hy:=hy.le l1
 refine(P02 hy).mono fun v V2 l2 ⟨r2,hv,h2⟩=>⟨r2,hv,?_⟩
 replace hx:=hx.le l2; replace hy:=hy.le l2; replace h1:=h1.le l2
 refine(z02 hx.re h2 (by omega) (by omega)).mono fun v V3 l3 ⟨r3,hv,h3⟩=>⟨r3,hv,?_⟩
 replace hx:=hx.le l3; replace hy:=hy.le l3; replace h1:=h1.le l3; replace h2:=h2.le l3
 refine(z02 hy.re h1 (by omega) (by omega)).mono fun v V4 l4 ⟨r4,hv,h4⟩=>⟨r4,hv,?_⟩
 replace hx:=hx.le l4; replace hy:=hy.le l4; replace h1:=h1.le l4; replace h2:=h2.le l4; replace h3:=h3.le l4
 refine(N05 h3 h4 (by omega) (by omega)).mono fun v V5 l5 ⟨r5,hv,h5⟩=>⟨r5,hv,?_⟩
 replace hx:=hx.le l5; replace hy:=hy.le l5; replace h1:=h1.le l5; replace h2:=h2.le l5
 refine(z02 hx.im h2 (by omega) (by omega)).mono fun v V6 l6 ⟨r6,hv,h6⟩=>⟨r6,hv,?_⟩
 replace hy:=hy.le l6; replace h1:=h1.le l6; replace h2:=h2.le l6; replace h5:=h5.le l6
 refine(z02 hy.im h1 (by omega) (by omega)).mono fun v V7 l7 ⟨r7,hv,h7⟩=>⟨r7,hv,?_⟩
 replace h1:=h1.le l7; replace h2:=h2.le l7; replace h5:=h5.le l7; replace h6:=h6.le l7
 refine(N05 h6 h7 (by omega) (by omega)).mono fun v V8 l8 ⟨r8,hv,h8⟩=>⟨r8,hv,?_⟩
 replace h1:=h1.le l8; replace h2:=h2.le l8; replace h5:=h5.le l8
 refine(M08 h1 h2 (by omega) (by omega)).mono fun v V9 l9 ⟨r9,hv,h9⟩=>⟨r9,hv,?_⟩
 exact(X05 (h5.le l9) (h8.le l9) h9 (z.canon.rep.add w.canon.rep) (by omega) (by omega) (by omega)).mono fun v V10 _ ⟨r,hv,hr⟩=>⟨r,hv,r,rfl,hr⟩
theorem A0n {V:View} {x:NumV} {z:Cq} (hx:c01 V x z):a00 prog J0s #[x.val] V fun v V'=>∃r:NumV,v=r.val∧c01 V' r (-z):=by
 obtain⟨e1,e2,e3⟩:=z.neg_eqs
 refine B0r x V _ ((P03 hx.re).mono fun v V1 l1 ⟨r1,hv,h1⟩=>⟨r1,hv,?_⟩)
 exact(P03 (hx.im.le l1)).mono fun v V2 l2 ⟨r2,hv,h2⟩=>⟨r2,hv,_,rfl,by rw[e1]; exact h1.le l2,by rw[e2]; exact h2,by rw[e3]; exact hx.under.le (View.le_trans l1 l2)⟩
theorem F0l {V:View} {x:NumV} {z:Cq} (hx:c01 V x z):a00 prog l0r #[x.val] V fun v V'=>∃r:NumV,v=r.val∧c01 V' r z.conj:=by
 obtain⟨e1,e2,e3⟩:=z.conj_eqs
 exact Q0o x V _ ((P03 hx.im).mono fun v V1 l1 ⟨r1,hv,h1⟩=>⟨r1,hv,_,rfl,by rw[e1]; exact hx.re.le l1,by rw[e2]; exact h1,by rw[e3]; exact hx.under.le l1⟩)
theorem N08 {V:View} {x y:NumV} {z w:Cq} (hx:c01 V x z) (hy:c01 V y w) (hz:z.sz≤2^40) (hw:w.sz≤2^40) :
 a00 prog O0h #[x.val,y.val] V fun v V'=>∃r:NumV,v=r.val∧c01 V' r (z-w):=by
 refine C0r x y V _ ((A0n hy).mono fun v V1 l1 ⟨r1,hv,h1⟩=>⟨r1,hv,?_⟩)
 rw[H0i]
 exact(z06 (hx.le l1) h1 hz (by rw[H0f]; exact hw)).mono fun v V2 _ ⟨r,hv,hr⟩=>⟨r,hv,r,rfl,hr⟩
theorem W04 {V:View} {x y:NumV} {z w:Cq} (hx:c01 V x z) (hy:c01 V y w) (hz:z.sz≤2^40) (hw:w.sz≤2^40) :
 a00 prog N0h #[x.val,y.val] V fun v V'=>∃r:NumV,v=r.val∧c01 V' r (z*w):=by
 have zA:=Cq.wA hz; have zB:=Cq.wB hz; have zD:=Cq.wD hz
 have wA:=Cq.wA hw; have wB:=Cq.wB hw; have wD:=Cq.wD hw
 have s1:=A04 zA wA; have s2:=A04 zB wB; have s2':=G0t s2; have s3:=A04 zA wB; have s4:=A04 zB wA
 have s5:=K0b s1 s2'; have s6:=K0b s3 s4
 have s7:=N09 z.D w.D
 refine D0r x y V _ ((n05 hx.re hy.re (by omega) (by omega)).mono fun v V1 l1 ⟨r1,hv,h1⟩=>⟨r1,hv,?_⟩)
 replace hx:=hx.le l1; replace hy:=hy.le l1
 refine(n05 hx.im hy.im (by omega) (by omega)).mono fun v V2 l2 ⟨r2,hv,h2⟩=>⟨r2,hv,?_⟩
 replace hx:=hx.le l2; replace hy:=hy.le l2; replace h1:=h1.le l2
 refine(P03 h2).mono fun v V3 l3 ⟨r3,hv,h3⟩=>⟨r3,hv,?_⟩
 replace hx:=hx.le l3; replace hy:=hy.le l3; replace h1:=h1.le l3
 refine(N05 h1 h3 (by omega) (by omega)).mono fun v V4 l4 ⟨r4,hv,h4⟩=>⟨r4,hv,?_⟩
 replace hx:=hx.le l4; replace hy:=hy.le l4
 refine(n05 hx.re hy.im (by omega) (by omega)).mono fun v V5 l5 ⟨r5,hv,h5⟩=>⟨r5,hv,?_⟩
 replace hx:=hx.le l5; replace hy:=hy.le l5; replace h4:=h4.le l5
 refine(n05 hx.im hy.re (by omega) (by omega)).mono fun v V6 l6 ⟨r6,hv,h6⟩=>⟨r6,hv,?_⟩
 replace hx:=hx.le l6; replace hy:=hy.le l6; replace h4:=h4.le l6; replace h5:=h5.le l6
 refine(N05 h5 h6 (by omega) (by omega)).mono fun v V7 l7 ⟨r7,hv,h7⟩=>⟨r7,hv,?_⟩
 replace hx:=hx.le l7; replace hy:=hy.le l7; replace h4:=h4.le l7
 refine(P02 hx).mono fun v V8 l8 ⟨r8,hv,h8⟩=>⟨r8,hv,?_⟩
 replace hy:=hy.le l8; replace h4:=h4.le l8; replace h7:=h7.le l8
 refine(P02 hy).mono fun v V9 l9 ⟨r9,hv,h9⟩=>⟨r9,hv,?_⟩
 replace h4:=h4.le l9; replace h7:=h7.le l9; replace h8:=h8.le l9
 refine(M08 h8 h9 (by omega) (by omega)).mono fun v V10 l10 ⟨r10,hv,h10⟩=>⟨r10,hv,?_⟩
 refine(X05 (h4.le l10) (h7.le l10) h10 ?_ (by omega) (by omega) (by omega)).mono fun v V11 _ ⟨r,hv,hr⟩=>⟨r,hv,r,rfl,hr⟩
 rw[←Int.sub_eq_add_neg]; exact z.canon.rep.mul w.canon.rep
theorem s0f {V:View} {x y:NumV} {z w:Cq} (hx:c01 V x z) (hy:c01 V y w) (hz:z.sz≤2^40) (hw:w.sz≤2^40) :
 a00 prog b0r #[x.val,y.val] V fun v _=>v = .bool (decide (z=w)):=by
 have zA:=Cq.wA hz; have zB:=Cq.wB hz; have zD:=Cq.wD hz
 have wA:=Cq.wA hw; have wB:=Cq.wB hw; have wD:=Cq.wD hw
 refine O0o x y V _ ((w08 hx.re hy.re (by omega) (by omega)).mono fun v V1 l1 hv=>⟨_,hv,fun h1 => ?_,fun h1=>⟨(fun h=>by cases h),fun _ => ?_⟩⟩)
 · have h1:z.A=w.A:=j0f.1 (by simpa using h1)
   refine(w08 (hx.im.le l1) (hy.im.le l1) (by omega) (by omega)).mono fun v V2 l2 hv=>⟨_,hv,fun h2 => ?_,fun h2 => ?_⟩
   · have h2:z.B=w.B:=j0f.1 (by simpa using h2)
     refine(U0c (hx.under.le (View.le_trans l1 l2)) (hy.under.le (View.le_trans l1 l2)) ?_).mono fun v V3 l3 hv=>⟨_,hv,?_⟩
     · split
       · rw[M09]; omega
       · omega
     · have hD1:=z.D_pos
       have hD2:=w.D_pos
       congr 1
       by_cases e:z.D=w.D
       · have:z=w:=d0v h1 h2 e
         subst this; simp
       · have:z≠w:=by rintro rfl; exact e rfl
         simp only[this,decide_false]
         have h3:(if z.D=1 then 0 else z.D)≠(if w.D=1 then 0 else w.D):=by split<;>split<;>omega
         rw[if_neg h3]
         by_cases h:(if z.D=1 then 0 else z.D)<(if w.D=1 then 0 else w.D)
         · rw[if_pos h]; rfl
         · rw[if_neg h]; rfl
   · have h2:¬z.B=w.B:=fun e=>by rw[j0f.2 e]at h2; simp at h2
     have:z≠w:=by rintro rfl; exact h2 rfl
     simp[this]
 · have h1:¬z.A=w.A:=fun e=>by rw[j0f.2 e]at h1; simp at h1
   have:z≠w:=by rintro rfl; exact h1 rfl
   simp[this]
theorem Y05 {V:View} {x:NumV} {z:Cq} (hx:c01 V x z):a00 prog Z0q #[x.val] V fun v _=>v = .bool (decide (z.im=0)):=by
 refine P0o x V _ ?_
 have h1:=hx.im.2.len_zero
 have h2:=Cq.B_zero (z:=z)
 congr 1
 by_cases e:z.im=0
 · have:x.im.mag.len=0:=h1.2 (by rw[h2.2 e]; rfl)
   simp[e,this]
 · have:x.im.mag.len≠0:=fun h=>e (h2.1 (by have:=h1.1 h; omega))
   simp only[e,decide_false,beq_eq_false_iff_ne,ne_eq]; omega
theorem n0a {V:View} {x y:NumV} {z w:Cq} (hx:c01 V x z) (hy:c01 V y w) (hz:z.sz≤2^40) (hw:w.sz≤2^40) :
 a00 prog C0s #[x.val,y.val] V fun v _=>v = .int .i64 (z.cmp w):=by
 have zA:=Cq.wA hz; have zB:=Cq.wB hz; have zD:=Cq.wD hz
 have wA:=Cq.wA hw; have wB:=Cq.wB hw; have wD:=Cq.wD hw
 have zD':wn (z.D:Int).natAbs≤2^35:=zD
 have wD':wn (w.D:Int).natAbs≤2^35:=wD
 have s1:=A04 zA wD'; have s2:=A04 wA zD'; have s3:=A04 zB wD'; have s4:=A04 wB zD'
 have c1:cmpZ (z.A*w.D) (w.A*z.D)=cmpR z.re w.re:=by rw[e0t z.D_pos w.D_pos,←z.canon.rep.re,←w.canon.rep.re]
 have c2:cmpZ (z.B*w.D) (w.B*z.D)=cmpR z.im w.im:=by rw[e0t z.D_pos w.D_pos,←z.canon.rep.im,←w.canon.rep.im]
 refine E0r x y V _ ((P02 hy).mono fun v V1 l1 ⟨r1,hv,h1⟩=>⟨r1,hv,?_⟩)
 replace hx:=hx.le l1; replace hy:=hy.le l1
 refine(z02 hx.re h1 (by omega) (by omega)).mono fun v V2 l2 ⟨r2,hv,h2⟩=>⟨r2,hv,?_⟩
 replace hx:=hx.le l2; replace hy:=hy.le l2
 refine(P02 hx).mono fun v V3 l3 ⟨r3,hv,h3⟩=>⟨r3,hv,?_⟩
 replace hx:=hx.le l3; replace hy:=hy.le l3; replace h2:=h2.le l3
 refine(z02 hy.re h3 (by omega) (by omega)).mono fun v V4 l4 ⟨r4,hv,h4⟩=>⟨r4,hv,?_⟩
 replace hx:=hx.le l4; replace hy:=hy.le l4; replace h2:=h2.le l4
 refine(w08 h2 h4 (by omega) (by omega)).mono fun v V5 l5 hv=>⟨_,hv,fun hn => ?_,fun hn => ?_⟩
 · rw[c1]at hn ⊢
   have hn:cmpR z.re w.re≠0:=by simpa using hn
   unfold Cq.cmp; rw[if_pos hn]
 · rw[c1]at hn
   have hn:¬cmpR z.re w.re≠0:=by simpa using hn
   replace hx:=hx.le l5; replace hy:=hy.le l5
   refine(P02 hy).mono fun v V6 l6 ⟨r6,hv,h6⟩=>⟨r6,hv,?_⟩
   replace hx:=hx.le l6; replace hy:=hy.le l6
   refine(z02 hx.im h6 (by omega) (by omega)).mono fun v V7 l7 ⟨r7,hv,h7⟩=>⟨r7,hv,?_⟩
   replace hx:=hx.le l7; replace hy:=hy.le l7
   refine(P02 hx).mono fun v V8 l8 ⟨r8,hv,h8⟩=>⟨r8,hv,?_⟩
   replace hx:=hx.le l8; replace hy:=hy.le l8; replace h7:=h7.le l8
   refine(z02 hy.im h8 (by omega) (by omega)).mono fun v V9 l9 ⟨r9,hv,h9⟩=>⟨r9,hv,?_⟩
   replace h7:=h7.le l9
   refine(w08 h7 h9 (by omega) (by omega)).mono fun v V10 l10 hv=>⟨_,hv,?_⟩
   unfold Cq.cmp; rw[if_neg hn,c2]
def ratQ (r:RatV):Cq:=if r.den=0 then⟨(r.re:Rat),(r.im:Rat)⟩else⟨(r.re:Rat) / (r.den:Rat),(r.im:Rat) / (r.den:Rat)⟩
def ratI (r:RatV):Prop:=(-9223372036854775808≤r.re∧r.re≤9223372036854775807)∧(-9223372036854775808≤r.im∧r.im≤9223372036854775807)∧(-9223372036854775808≤r.den∧r.den≤9223372036854775807)
theorem Z0c {V:View} {r:RatV} (h:ratI r):a00 prog D0s #[r.val] V fun v V'=>∃x:NumV,v=x.val∧c01 V' x (ratQ r):=by
 obtain⟨⟨a1,a2⟩,⟨b1,b2⟩,⟨c1,c2⟩⟩:=h
 refine F0r r V _ ⟨fun h0 => ?_,fun h0 => ?_⟩
 · have h0:r.den=0:=by simpa using h0
   refine(L0g a1 a2 b1 b2 (by omega) (by omega) (by omega)).mono fun v V1 _ ⟨x,hv,hx⟩=>⟨x,0,hv,x,rfl,?_⟩
   have e:ratQ r=⟨(r.re:Rat) / ((1:Int):Rat),(r.im:Rat) / ((1:Int):Rat)⟩:=by
    unfold ratQ; rw[if_pos h0]; simp only[Rat.div_def,Cq.mk.injEq]; constructor<;>grind
   rw[e]; exact hx
 · have h0:r.den≠0:=by simpa using h0
   refine(L0g a1 a2 b1 b2 c1 c2 h0).mono fun v V1 _ ⟨x,hv,hx⟩=>⟨x,0,hv,x,rfl,?_⟩
   unfold ratQ; rw[if_neg h0]; exact hx
theorem Q09 (r:NumV):∀v∈[Value.bool r.re.neg,r.re.mag.v,Value.bool r.im.neg,r.im.mag.v,r.under.v],Value.oneCell' v=true:=by
 intro v hv
 simp only[List.mem_cons,List.not_mem_nil,or_false]at hv
 rcases hv with rfl|rfl|rfl|rfl|rfl<;>rfl
theorem a0d {V:View} {b:Nat} {l:List Value} (h:V b=some l.toArray):V.has (some (Addr.mk b 0 none)) l:=by
 intro j v hj
 rw[a08 h]; simpa using hj
end Go.Proofs.YtfdaofhjkdabbaaGreat
namespace Go.Proofs.YtfdaofhjkdabbaaGreat
open Go Go.Vc Go.Proofs Go.ChangeShapes Go.RowKit
section
variable {H:Type} {enc:TypeId×Value→H} {P:Program} {w:World} {base:Nat} {spare:Nat→Bool} {held:Bool}
end
theorem a00.fits {P:Program} {f:FuncId} {args:Array Value} {r:Value} {V:View} (h:a00 P f args V fun v _=>v=r) {w:World} (hw:V.In w) :
 Calls P f args w fun e w'=>e = .returned r∧Below w.heap.size w w' :=
 (h w hw).mono fun _ _ ⟨_,_,he,_,_,_,hb,hr⟩=>⟨by rw[he,hr],hb⟩
theorem t0f {H:Type} {enc:TypeId×Value→H} {P:Program} (hl:laidOutB P=true) {W W':World} (hb:Below W.heap.size W W') :
 ∀ {ts:List TypeId} {vs:List Value} {ds:List (DataW H)} {ps:List MemPlace},(∀t∈ts,P.readableRec t=true∧t<P.types.size)→(∀p∈ps,p.block<W.heap.size) →
 DataW.TrodAll enc P W 0 (fun _=>true) true ts vs ds ps→DataW.TrodAll enc P W' 0 (fun b=>decide (b<W.heap.size)) true ts vs ds ps
 | [],[],[],_,_,_,h=>h
 | t::ts,v::vs,d::ds,ps,ht,hlt,⟨p,q,h1,h2,e⟩=>by
   subst e
   exact⟨p,q,Below.trod hl (ht t (by simp)).1 (ht t (by simp)).2 h1 hb (fun x hx=>hlt x (by simp[hx])),
    t0f hl hb (fun t' ht'=>ht t' (by simp[ht'])) (fun x hx=>hlt x (by simp[hx])) h2,rfl⟩
 | [],[],_::_,_,_,_,h=>h.elim
 | [],_::_,_,_,_,_,h=>h.elim
 | _::_,[],_,_,_,_,h=>h.elim
 | _::_,_::_,[],_,_,_,h=>h.elim
theorem B0n {H:Type} {enc:TypeId×Value→H} {P:Program} {f:Func} {s:ChangeSpec} {apart fresh handsOn:Bool} {W W':World} {args:Array Value} {v:Value} {ds:List (DataW H)} {before:List MemPlace}
 (hl:laidOutB P=true) (ht:∀t∈f.params.toList,P.readableRec t=true∧t<P.types.size)
 (hW:DataW.Whole enc P f.params.toList s.vars apart W args.toList ds [] before) (hA:DataW.TrodAll enc P W 0 (fun _=>true) true f.params.toList args.toList ds before)
 (hres:∀(b:Nat) (sp:Nat→Bool) (hd:Bool),DataW.TrodAll enc P W' b sp hd f.resultTypes.toList (v.resultList f.resultTypes.size) (s.fn H (ds++[])).results [])
 (hargs:(s.fn H (ds++[])).args=ds) (hvars:∀sp:Nat→Bool,DataW.TrodVars enc P W' sp s.vars (s.fn H (ds++[])).vars []) (hb:Below W.heap.size W W'):s.post enc P f apart fresh handsOn false W args v W':=by
 refine⟨ds,[],before,[],before,[],hW,hres _ _ _,?_,hvars _,World.keptBut_mono (fun p hp=>⟨hp,.inr (.inl hp)⟩) (hb.frame (·∈before)),fun h=>Bool.noConfusion h⟩
 rw[hargs]
 exact t0f hl hb ht (fun p hp=>hW.lt p hp) hA
inductive FK where
 | int (k:IntKind)
 | bool
def FK.ok:FK→Value→Prop
 | .int k,v=>∃n,v = .int k n∧(Lit.int k n).wf=true
 | .bool,v=>∃b,v = .bool b
def q0c:List FK→List Value→Prop
 | [],[]=>True
 | f::fs,v::vs=>f.ok v∧q0c fs vs
 | _,_=>False
theorem q0c.append:∀ {l l':List FK} {v v':List Value},q0c l v→q0c l' v'→q0c (l++l') (v++v')
 | [],_,[],_,_,h=>h
 | _::_,_,_::_,_,⟨h1,h2⟩,h=>⟨h1,q0c.append h2 h⟩
 | [],_,_::_,_,h,_=>h.elim
 | _::_,_,[],_,h,_=>h.elim
def C0n (P:Program) (F:TypeId→Option (List FK)):List Field→Nat→Option (List FK)
 | [],_=>some []
 | f::fs,off=>match F f.type,C0n P F fs (off+P.cellsOf f.type)with
   | some l,some r=>if f.offset=off∧l.length=P.cellsOf f.type then some (l++r)else none
   | _,_=>none
def G0l (P:Program):Nat→TypeId→Option (List FK)
 | 0,_=>none
 | d+1,t=>match P.underlying t with
   | some (.int k)=>some [.int k]
   | some .bool=>some [.bool]
   | some (.struct fs) => match C0n P (G0l P d) fs.toList 0 with
     | some l=>if l.length=P.cellsOf t then some l else none
     | none=>none
   | some (.array n e) => match G0l P d e with
     | some l=>if l.length=P.cellsOf e∧n*l.length=P.cellsOf t then some (List.replicate n l).flatten else none
     | none=>none
   | _=>none
section
variable {H:Type} {enc:TypeId×Value→H} {P:Program} {w:World} {base:Nat} {spare:Nat→Bool} {held:Bool}
theorem t0i {F:TypeId→Option (List FK)} {n:Nat} (hF:∀t l cs x,F t=some l→DataW.trod enc P w base spare held n t cs=some x→q0c l cs) {cs:List Value} {xs:List (DataW H×List MemPlace)} {all:List Field} (hxs:xs.length=all.length)
 (hf:∀(i:Nat) (f:Field),all[i]?=some f→DataW.trod enc P w base spare held n f.type ((cs.drop f.offset).take (P.cellsOf f.type))=xs[i]?) :
 ∀(fs pre:List Field) (off:Nat) (l:List FK),all=pre++fs→C0n P F fs off=some l→cs.length=off+l.length→q0c l (cs.drop off)
 | [],pre,off,l,he,h,hl=>by
   simp only[C0n,Option.some.injEq]at h
   subst h
   rw[List.drop_eq_nil_of_le (by simp at hl; omega)]; trivial
 | f::fs,pre,off,l,he,h,hl=>by
   simp only[C0n]at h
   split at h
   · rename_i l1 r h1 h2
     split at h
     · rename_i hc
       obtain⟨rfl,hlen⟩:=hc
       simp only[Option.some.injEq]at h
       subst h
       have hi:all[pre.length]?=some f:=by rw[he]; simp
       have g:=hf _ f hi
       have hx:pre.length<xs.length:=by rw[hxs,he]; simp
       rw[List.getElem?_eq_getElem hx]at g
       have a1:=hF _ _ _ _ h1 g
       have a2:=t0i hF hxs hf fs (pre++[f]) (f.offset+P.cellsOf f.type) r (by rw[he]; simp) h2 (by rw[List.length_append]at hl; omega)
       have e:cs.drop f.offset=(cs.drop f.offset).take (P.cellsOf f.type)++cs.drop (f.offset+P.cellsOf f.type):=by
        rw[←List.drop_drop,List.take_append_drop]
       rw[e]; exact a1.append a2
     · simp at h
   · simp at h
theorem E0d:∀(d:Nat) (fuel:Nat) (t:TypeId) (l:List FK) (cs:List Value) (x:DataW H×List MemPlace),G0l P d t=some l→DataW.trod enc P w base spare held fuel t cs=some x→q0c l cs
 | 0,_,_,_,_,_,h,_=>by simp[G0l]at h
 | d+1,fuel,t,l,cs,x,h,hx=>by
   simp only[G0l]at h
   split at h
   · rename_i k hu
     obtain⟨n,rfl,_,hw⟩:=DataW.trod_int hu hx
     simp only[Option.some.injEq]at h
     subst h
     exact⟨⟨n,rfl,hw⟩,trivial⟩
   · rename_i hu
     obtain⟨b,rfl,_⟩:=DataW.trod_bool hu hx
     simp only[Option.some.injEq]at h
     subst h
     exact⟨⟨b,rfl⟩,trivial⟩
   · rename_i fs hu
     obtain⟨xs,n,rfl,_,hl,hxs,hf⟩:=DataW.trod_struct hu hx
     split at h
     · rename_i l1 h1
       split at h
       · rename_i hc
         simp only[Option.some.injEq]at h
         subst h
         have:=t0i (F:=G0l P d) (fun t l cs x h1 h2=>E0d d n t l cs x h1 h2) (all:=fs.toList) (by simpa using hxs) (fun i f hi=>hf i f (by simpa using hi)) fs.toList [] 0 l1 rfl h1 (by omega)
         simpa using this
       · simp at h
     · simp at h
   · rename_i n e hu
     obtain⟨xs,m,rfl,_,hl,hxs,hf⟩:=DataW.trod_array hu hx
     split at h
     · rename_i l1 h1
       split at h
       · rename_i hc
         obtain⟨c1,c2⟩:=hc
         simp only[Option.some.injEq]at h
         subst h
         have key:∀j,j≤n→q0c (List.replicate j l1).flatten (cs.take (j*P.cellsOf e)):=by
          intro j
          induction j with
          | zero=>intro _; simp; trivial
          | succ j ih =>
            intro hj
            have a1:=ih (by omega)
            have g:=hf j (by omega)
            rw[List.getElem?_eq_getElem (by omega:j<xs.length)]at g
            have a2:=E0d d m e l1 _ _ h1 g
            have e1:cs.take ((j+1)*P.cellsOf e)=cs.take (j*P.cellsOf e)++(cs.drop (j*P.cellsOf e)).take (P.cellsOf e):=by
             rw[Nat.add_mul,Nat.one_mul,List.take_add]
            have e2:(List.replicate (j+1) l1).flatten=(List.replicate j l1).flatten++l1:=by
             rw[List.replicate_succ']; simp
            rw[e1,e2]; exact a1.append a2
         have:=key n (Nat.le_refl _)
         rw[List.take_of_length_le (by rw[hl,←c2,c1]; exact Nat.le_refl _)]at this
         exact this
       · simp at h
     · simp at h
   · simp at h
theorem H0t {t:TypeId} {v:Value} {dd:DataW H} {ps:List MemPlace} {l:List FK} (hk:G0l P 8 t=some l) (h:DataW.Trod enc P w base spare held t v dd ps):q0c l v.cells.toList:=by
 obtain⟨fuel,h⟩:=h
 exact E0d 8 fuel t l _ _ hk h
end
theorem D0n {v:Value} {l:List Value} (h:v.cells.toList=l) (hl:l.length≠1):v = .agg l.toArray:=by
 cases v with
 | agg cs => have : cs.toList = l := h
             rw[←this]
 | _=>exact absurd (by rw[←h]; rfl) hl
def M07 (w:World):View:=fun b=>match w.heap[b]? with|some (.cells cs _ _)=>some cs|_=>none
theorem E0n (w:World):(M07 w).In w:=by
 intro i cs hi
 unfold M07 at hi
 split at hi
 · rename_i cs' T fr hw
   simp at hi; subst hi
   exact⟨T,fr,hw⟩
 · simp at hi
theorem t0j {w:World} {p:Addr} {v:Value} (h:w.cell? p=some v):(M07 w).load (some p)=some v:=by
 unfold World.cell? at h
 unfold View.load M07
 split at h
 · rename_i c T fr hw
   simp only[hw]
   split at h
   · simp at h
   · rename_i hs
     simp only[hs]
     simpa using h
 · simp at h
section
variable {H:Type} {enc:TypeId×Value→H} {P:Program} {w:World} {base:Nat} {spare:Nat→Bool} {held:Bool}
theorem I0t {α:Type} {sz:Nat} {t e:TypeId} (ht:P.underlying t=some (.slice e)) (hc:P.cellsOf e=sz) (ok:α→Prop) (E:View→List Value→α→Prop)
 (he:∀ {fuel:Nat} {cs:List Value} {x:DataW H×List MemPlace},DataW.trod enc P w base spare held fuel e cs=some x→∃z,ok z∧E (M07 w) cs z)
 {fuel:Nat} {cs:List Value} {x:DataW H×List MemPlace} (h:DataW.trod enc P w base spare held fuel t cs=some x) :
 ∃(s:Sl) (zs:List α),cs=[s.v]∧t00 sz E (M07 w) s zs∧zs.length≤maxLen∧∀z∈zs,ok z:=by
 rcases Go.Deep.open_slice ht h with⟨h1,_⟩|⟨a,l0,c0,m,n,D,Pl,h1,_,hl,hm,hmm,_,hx⟩
 · subst h1
   exact⟨Sl.mk none 0 0,[],rfl,t00.nil,Nat.zero_le _,by intro r hr; simp at hr⟩
 · subst h1
   have hlm:l0≤m:=by rw[hmm]; split<;>omega
   have key:∀k,k≤l0→∃(rs:List α) (o:List Value),rs.length=k∧(∀r∈rs,ok r)∧x01 sz E (M07 w) o rs∧(M07 w).has (some a) o:=by
    intro k
    induction k with
    | zero=>intro _; exact⟨[],[],rfl,by intro r hr; simp at hr,rfl,by intro j v hj; simp at hj⟩
    | succ k ih =>
      intro hk
      obtain⟨rs,o,hrl,hri,hcs,ho⟩:=ih (by omega)
      obtain⟨cs',g1,g2⟩:=hx k (by omega)
      obtain⟨r,hr,er⟩:=he g2
      rw[hc]at g1
      obtain⟨_,hcl,hcell⟩:=World.cells?_some g1
      have hol:=hcs.length
      refine⟨rs++[r],o++cs',by simp[hrl],?_,hcs.append (x01.one hcl er),?_⟩
      · intro x hx
        rcases List.mem_append.1 hx with h|h
        · exact hri x h
        · simp at h; subst h; exact hr
      · intro j v hj
        by_cases hjo:j<o.length
        · rw[List.getElem?_append_left hjo]at hj
          exact ho j v hj
        · rw[List.getElem?_append_right (by omega)]at hj
          have hj3:j-o.length<sz:=by
           rcases Nat.lt_or_ge (j-o.length) cs'.length with h|h
           · omega
           · rw[List.getElem?_eq_none h]at hj; simp at hj
          have hcj:=hcell (j-o.length) hj3
          rw[hj,k0f]at hcj
          have e:k*sz+(j-o.length)=j:=by rw[hol,hrl]; rw[hol,hrl]at hjo; omega
          rw[e]at hcj
          exact t0j hcj
   obtain⟨rs,o,hrl,hri,hcs,ho⟩:=key l0 (Nat.le_refl _)
   exact⟨Sl.mk (some a) l0 c0,rs,rfl,⟨hrl.symm,hl,fun _=>rfl,o,ho,hcs⟩,by omega,hri⟩
theorem F0n {v x:Value} (h:v.cells.toList=[x]) (hv:∃a l c,v = .slice a l c):v=x:=by
 obtain⟨a,l,c,rfl⟩:=hv
 simpa [Value.cells]using h
end
end Go.Proofs.YtfdaofhjkdabbaaGreat
namespace Go.Proofs.YtfdaofhjkdabbaaGreat
open Go Go.Vc Go.Proofs
theorem U0r {V:View} {b:Nat} (hb:V b=some #[.int .u32 1]):x00 V ⟨some ⟨b,0,none⟩,1,1⟩ 1:=by
 have:dig 1=[1]:=by rw[l06 (by omega)]; simp[P04]
 unfold x00; rw[this]
 exact P01.of_block (by rw[hb]; rfl) rfl (Nat.le_refl _) (by intro d hd; simp at hd; omega)
theorem P0w:wn 1≤2^43:=wn64 (by omega)
theorem J0t {z:Cq}:z.A=0↔z.re=0:=by
 have h:=z.canon.rep
 have hD:=X04 h.pos
 rw[h.re]
 constructor
 · intro e; rw[e]; simp[Rat.div_def]
 · intro e
   have:(z.A:Rat)=0:=by
    have:(z.A:Rat)=(z.A:Rat) / (z.D:Rat)*(z.D:Rat):=by rw[Rat.div_mul_cancel hD]
    rw[this,e]; simp
   exact_mod_cast this
theorem B_zero {z:Cq}:z.B=0↔z.im=0:=by
 have h:=z.canon.rep
 have hD:=X04 h.pos
 rw[h.im]
 constructor
 · intro e; rw[e]; simp[Rat.div_def]
 · intro e
   have:(z.B:Rat)=0:=by
    have:(z.B:Rat)=(z.B:Rat) / (z.D:Rat)*(z.D:Rat):=by rw[Rat.div_mul_cancel hD]
    rw[this,e]; simp
   exact_mod_cast this
theorem H0a {V:View} {x:NumV} {z:Cq} (h:c01 V x z) (hz:z.sz≤2^40):a00 Tryz.prog M0h #[x.val] V fun v _=>v = .bool (decide (z≠Cq.zero)):=by
 have zA:=Cq.wA hz; have zB:=Cq.wB hz
 refine M0m x V _ ?_
 have a1:=h.re.2.len; have a2:=h.im.2.len
 have b1:=h.re.2.len_zero; have b2:=h.im.2.len_zero
 have c1:x.re.mag.len≤2^50:=by
  have:x.re.mag.len=wn z.A.natAbs:=by rw[wn]; exact a1.symm▸rfl
  omega
 have c2:x.im.mag.len≤2^50:=by
  have:x.im.mag.len=wn z.B.natAbs:=by rw[wn]; exact a2.symm▸rfl
  omega
 rw[i64w (by omega) (by omega)]
 have d1:x.re.mag.len=0↔z.re=0:=by rw[b1,←J0t]; omega
 have d2:x.im.mag.len=0↔z.im=0:=by rw[b2,←B_zero]; omega
 have e:(z≠Cq.zero)↔((x.re.mag.len:Int)+(x.im.mag.len:Int)>0):=by
  constructor
  · intro hne
    rcases Nat.eq_zero_or_pos x.re.mag.len with p|p
    · rcases Nat.eq_zero_or_pos x.im.mag.len with q|q
      · exact absurd (Cq.ext' (d1.1 p) (d2.1 q)) hne
      · omega
    · omega
  · rintro hp rfl
    have p:=d1.2 rfl; have q:=d2.2 rfl
    omega
 simp only[e]
theorem Rep.div {z w:Cq} {A B a b:Int} {D d n:Nat} (hw:Rep w A B D) (ht:Rep (z*⟨(A:Rat),-(B:Rat)⟩) a b d) (hn:(n:Int)=A*A+B*B) (h0:n≠0):Rep (z.div w) (a*D) (b*D) (d*n):=by
 have hD:=X04 hw.pos
 have hd:=X04 ht.pos
 have hn0:=X04 h0
 have hN:(n:Rat)=(A:Rat)*A+B*B:=by exact_mod_cast hn
 have t1:=ht.re; have t2:=ht.im
 rw[Z01]at t1; rw[a02]at t2
 dsimp only at t1 t2
 refine⟨Nat.mul_ne_zero ht.pos h0,?_,?_⟩
 · show(z.re*w.re+z.im*w.im) / (w.re*w.re+w.im*w.im)=_
   rw[hw.re,hw.im,Rat.intCast_mul,Rat.natCast_mul,Rat.intCast_natCast]
   have e1:z.re*((A:Rat) / (D:Rat))+z.im*((B:Rat) / (D:Rat))=(a:Rat) / (d:Rat) / (D:Rat):=by rw[←t1]; grind
   have e2:(A:Rat) / (D:Rat)*((A:Rat) / (D:Rat))+(B:Rat) / (D:Rat)*((B:Rat) / (D:Rat))=(n:Rat) / ((D:Rat)*(D:Rat)):=by rw[hN]; grind
   rw[e1,e2]; grind
 · show(z.im*w.re-z.re*w.im) / (w.re*w.re+w.im*w.im)=_
   rw[hw.re,hw.im,Rat.intCast_mul,Rat.natCast_mul,Rat.intCast_natCast]
   have e1:z.im*((A:Rat) / (D:Rat))-z.re*((B:Rat) / (D:Rat))=(b:Rat) / (d:Rat) / (D:Rat):=by rw[←t2]; grind
   have e2:(A:Rat) / (D:Rat)*((A:Rat) / (D:Rat))+(B:Rat) / (D:Rat)*((B:Rat) / (D:Rat))=(n:Rat) / ((D:Rat)*(D:Rat)):=by rw[hN]; grind
   rw[e1,e2]; grind
theorem p0g (A B:Int):Rep ⟨(A:Rat),-(B:Rat)⟩ A (-B) 1:=by
 refine⟨by omega,?_,?_⟩
 · rw[Rat.div_def]; simp; grind
 · rw[Rat.div_def]; simp; grind
theorem M0g {V:View} {x y:NumV} {z w:Cq} (hx:c01 V x z) (hy:c01 V y w) (hz:z.sz≤2^36) (hw:w.sz≤2^36) :
 a00 Tryz.prog w0m #[x.val,y.val] V fun v V'=>∃(r:NumV) (e:Int),v = .tuple #[r.val,.int .i64 e]∧(w=Cq.zero→e=3∧c01 V' r Cq.zero)∧(w≠Cq.zero→e=0∧c01 V' r (z.div w)):=by
 have hw40:w.sz≤2^40:=by omega
 have wA:=Cq.wA hw40; have wB:=Cq.wB hw40; have wD:=Cq.wD hw40
 have sA:=w.szA; have sB:=w.szB; have sD:=w.szD
 refine G0r x y V _ ((H0a hy hw40).mono fun v V1 l1 hv=>⟨_,hv,fun hc => ?_,fun hc => ?_⟩)
 · have hc:w=Cq.zero:=by simpa using hc
   exact⟨_,_,rfl,fun _=>⟨rfl,c01.zero V1⟩,fun h=>absurd hc h⟩
 have hc:w≠Cq.zero:=by simpa using hc
 replace hx:=hx.le l1; replace hy:=hy.le l1
 have m1:=A04 wA wA; have m2:=A04 wB wB
 refine(n05 hy.re hy.re (by omega) (by omega)).mono fun v V2 l2 ⟨r2,hv,h2⟩=>⟨r2,hv,?_⟩
 replace hx:=hx.le l2; replace hy:=hy.le l2
 refine(n05 hy.im hy.im (by omega) (by omega)).mono fun v V3 l3 ⟨r3,hv,h3⟩=>⟨r3,hv,?_⟩
 replace hx:=hx.le l3; replace hy:=hy.le l3; replace h2:=h2.le l3
 refine(N05 h2 h3 (by omega) (by omega)).mono fun v V4 l4 ⟨r4,hv,h4⟩=>⟨r4,hv,?_⟩
 replace hx:=hx.le l4; replace hy:=hy.le l4
 refine(P03 hy.im).mono fun v V5 l5 ⟨r5,hv,h5⟩=>⟨r5,hv,fun b1 V6 l6 _ hb1 => ?_⟩
 replace hx:=hx.le (View.le_trans l5 l6); replace hy:=hy.le (View.le_trans l5 l6); replace h4:=h4.le (View.le_trans l5 l6); replace h5:=h5.le l6
 refine(X05 hy.re h5 (U0r hb1) (p0g w.A w.B) (by omega) (by rw[Int.natAbs_neg]; omega) P0w).mono fun v V7 l7 ⟨r6,hv,h6⟩=>⟨r6,hv,?_⟩
 replace hx:=hx.le l7; replace hy:=hy.le l7; replace h4:=h4.le l7
 have cs:(⟨(w.A:Rat),-(w.B:Rat)⟩:Cq).sz≤2^36+1:=(p0g w.A w.B).sz (by omega) (by rw[Int.natAbs_neg]; omega) (by rw[a0t]; omega)
 refine(W04 hx h6 (by omega) (by omega)).mono fun v V8 l8 ⟨r7,hv,h7⟩=>⟨r7,hv,?_⟩
 replace hy:=hy.le l8; replace h4:=h4.le l8
 have ts:=m01 z ⟨(w.A:Rat),-(w.B:Rat)⟩
 have ts40:(z*⟨(w.A:Rat),-(w.B:Rat)⟩).sz≤2^40:=by omega
 have tA:=Cq.wA ts40; have tB:=Cq.wB ts40; have tD:=Cq.wD ts40
 refine(P02 hy).mono fun v V9 l9 ⟨r8,hv,h8⟩=>⟨r8,hv,?_⟩
 replace hy:=hy.le l9; replace h4:=h4.le l9; replace h7:=h7.le l9
 refine(z02 h7.re h8 (by omega) (by omega)).mono fun v V10 l10 ⟨r9,hv,h9⟩=>⟨r9,hv,?_⟩
 replace hy:=hy.le l10; replace h4:=h4.le l10; replace h7:=h7.le l10
 refine(P02 hy).mono fun v V11 l11 ⟨r10,hv,h10⟩=>⟨r10,hv,?_⟩
 replace h4:=h4.le l11; replace h7:=h7.le l11; replace h9:=h9.le l11
 refine(z02 h7.im h10 (by omega) (by omega)).mono fun v V12 l12 ⟨r11,hv,h11⟩=>⟨r11,hv,?_⟩
 replace h4:=h4.le l12; replace h7:=h7.le l12; replace h9:=h9.le l12
 refine(P02 h7).mono fun v V13 l13 ⟨r12,hv,h12⟩=>⟨r12,hv,?_⟩
 replace h4:=h4.le l13; replace h9:=h9.le l13; replace h11:=h11.le l13
 have n1:=K0b m1 m2
 refine(M08 h12 h4.2 (by omega) (by omega)).mono fun v V14 l14 ⟨r13,hv,h13⟩=>⟨r13,hv,?_⟩
 replace h9:=h9.le l14; replace h11:=h11.le l14
 have p1:=N09 (z*⟨(w.A:Rat),-(w.B:Rat)⟩).D (w.A*w.A+w.B*w.B).natAbs
 have q1:=A04 tA (b:=(w.D:Int)) (by rw[Int.natAbs_natCast]; exact wD)
 have q2:=A04 tB (b:=(w.D:Int)) (by rw[Int.natAbs_natCast]; exact wD)
 have hsq:(0:Int)≤w.A*w.A+w.B*w.B:=Int.add_nonneg (by rw[←Int.natAbs_mul_self]; exact Int.natCast_nonneg _) (by rw[←Int.natAbs_mul_self]; exact Int.natCast_nonneg _)
 refine(X05 h9 h11 h13 (Rep.div w.canon.rep (z*⟨(w.A:Rat),-(w.B:Rat)⟩).canon.rep (Int.natAbs_of_nonneg hsq) ?_) (by omega) (by omega) (by omega)).mono fun v V15 _ ⟨r,hv,hr⟩=>⟨r,hv,r,_,rfl,fun h=>absurd h hc,fun _=>⟨rfl,hr⟩⟩
 intro h0
 have e0:w.A*w.A+w.B*w.B=0:=Int.natAbs_eq_zero.1 h0
 have a0:w.A=0:=by
  by_cases h:w.A=0
  · exact h
  · have:0<w.A*w.A:=by
      have:0<w.A.natAbs*w.A.natAbs:=Nat.mul_pos (by omega) (by omega)
      rw[←Int.natAbs_mul_self]; exact_mod_cast this
    have:(0:Int)≤w.B*w.B:=by rw[←Int.natAbs_mul_self]; exact Int.natCast_nonneg _
    omega
 have b0:w.B=0:=by
  rw[a0]at e0
  have:w.B*w.B=0:=by omega
  rcases Int.mul_eq_zero.1 this with h|h<;>exact h
 exact hc (Cq.ext' (J0t.1 a0) (B_zero.1 b0))
theorem l0k {z w:Cq} {S:Nat} (hz:z.sz≤S) (hw:w.sz≤S):(z.div w).sz≤4*S+8:=by
 have sA:=w.szA; have sB:=w.szB; have sD:=w.szD
 have cs:(⟨(w.A:Rat),-(w.B:Rat)⟩:Cq).sz≤S+1:=(p0g w.A w.B).sz (by omega) (by rw[Int.natAbs_neg]; omega) (by rw[a0t]; omega)
 have ts:=m01 z ⟨(w.A:Rat),-(w.B:Rat)⟩
 have tA:=(z*⟨(w.A:Rat),-(w.B:Rat)⟩:Cq).szA; have tB:=(z*⟨(w.A:Rat),-(w.B:Rat)⟩:Cq).szB; have tD:=(z*⟨(w.A:Rat),-(w.B:Rat)⟩:Cq).szD
 have hsq:(0:Int)≤w.A*w.A+w.B*w.B:=Int.add_nonneg (by rw[←Int.natAbs_mul_self]; exact Int.natCast_nonneg _) (by rw[←Int.natAbs_mul_self]; exact Int.natCast_nonneg _)
 by_cases h0:(w.A*w.A+w.B*w.B).natAbs=0
 · have:z.div w=Cq.zero:=by
     have hr:=w.canon.rep
     have e0:w.A*w.A+w.B*w.B=0:=Int.natAbs_eq_zero.1 h0
     have hn:w.norm=0:=by
      unfold Cq.norm
      rw[hr.re,hr.im]
      have:(w.A:Rat)*w.A+w.B*w.B=0:=by exact_mod_cast e0
      have hD:=X04 hr.pos
      grind
     refine Cq.ext' ?_ ?_
     · show _ / w.norm=0; rw[hn]; simp[Rat.div_def]
     · show _ / w.norm=0; rw[hn]; simp[Rat.div_def]
   rw[this]; have:=c08; omega
 · refine(Rep.div w.canon.rep (z*⟨(w.A:Rat),-(w.B:Rat)⟩).canon.rep (Int.natAbs_of_nonneg hsq) h0).sz ?_ ?_ ?_
   · have:=W08 (z*⟨(w.A:Rat),-(w.B:Rat)⟩).A (w.D:Int); rw[Int.natAbs_natCast]at this; omega
   · have:=W08 (z*⟨(w.A:Rat),-(w.B:Rat)⟩).B (w.D:Int); rw[Int.natAbs_natCast]at this; omega
   · have h1:=N0p (z*⟨(w.A:Rat),-(w.B:Rat)⟩).D (w.A*w.A+w.B*w.B).natAbs
     have h2:=f0i (a:=w.A*w.A) (b:=w.B*w.B) (k:=2*S) (Nat.le_trans (W08 _ _) (by omega)) (Nat.le_trans (W08 _ _) (by omega))
     omega
def okN (z:Cq):Prop:=z.sz≤2^36
def atN (V:View) (n:NumV) (z:Cq):Prop:=c01 V n z
theorem atN.le {V V':View} (h:V.le V') {n:NumV} {z:Cq} (k:atN V n z):atN V' n z:=c01.le h k
theorem elN {V:View} {x:List Value} {z:Cq} (h:numC V x z):∃n:NumV,x=n.val.cells.toList∧atN V n z:=h
theorem K0t {V:View} {n:NumV} {z:Cq} (h:atN V n z):numC V n.val.cells.toList z:=⟨n,rfl,h⟩
theorem lenN (n:NumV):n.val.cells.toList.length=5:=rfl
theorem oneN {V:View} {x:List Value} {z:Cq} (h:numC V x z):∀v∈x,Value.oneCell' v=true:=by
 obtain⟨n,e,_⟩:=h
 subst e
 intro v hv
 rw[f0t]at hv
 simp only[List.mem_cons,List.not_mem_nil,or_false]at hv
 rcases hv with rfl|rfl|rfl|rfl|rfl<;>rfl
theorem q0x (V:View):numC V [Value.bool false,Value.slice none 0 0,Value.bool false,Value.slice none 0 0,Value.slice none 0 0] Cq.zero:=⟨_,rfl,c01.zero V⟩
theorem Q0w {V:View} {n:NumV} {z:Cq} (h:atN V n z) (hz:okN z):a00 Tryz.prog M0h #[n.val] V fun v _=>v = .bool (numO.clr z):=H0a h (by unfold okN at hz; omega)
theorem divN {V:View} {n k:NumV} {z w:Cq} (h:atN V n z) (h':atN V k w) (hz:okN z) (hw:okN w) (hc:numO.clr w=true) :
 a00 Tryz.prog w0m #[n.val,k.val] V fun v V'=>∃r:NumV,v = .tuple #[r.val,.int .i64 0]∧atN V' r (numO.div z w):=by
 refine(M0g h h' hz hw).mono fun v V' _ ⟨r,e,hv,_,h2⟩ => ?_
 obtain⟨g1,g2⟩:=h2 (G0b.1 hc)
 subst g1
 exact⟨r,hv,g2⟩
theorem L0t {x y u:Cq} (hx:okN x) (hy:okN y) (hu:okN u):(Cq.div x y).sz≤4*2^36+8∧(Cq.div x y*u).sz≤5*2^36+9:=by
 have h1:=l0k hx hy
 have h2:=m01 (Cq.div x y) u
 unfold okN at hu
 omega
theorem s0x {V:View} {n k:NumV} {x y u:Cq} (h:atN V n (numO.div x y)) (h':atN V k u) (hx:okN x) (hy:okN y) (hu:okN u) :
 a00 Tryz.prog N0h #[n.val,k.val] V fun v V'=>∃r:NumV,v=r.val∧atN V' r (numO.mul (numO.div x y) u):=by
 have hs:=L0t hx hy hu
 exact W04 (z:=Cq.div x y) (w:=u) h h' (by omega) (by unfold okN at hu; omega)
theorem t0x {V:View} {n k:NumV} {z x y u:Cq} (h:atN V n z) (h':atN V k (numO.mul (numO.div x y) u)) (hz:okN z) (hx:okN x) (hy:okN y) (hu:okN u) :
 a00 Tryz.prog O0h #[n.val,k.val] V fun v V'=>∃r:NumV,v=r.val∧atN V' r (numO.sub z (numO.mul (numO.div x y) u)):=by
 have hs:=L0t hx hy hu
 exact N08 (z:=z) (w:=Cq.div x y*u) h h' (by unfold okN at hz; omega) (by omega)
theorem mulN {V:View} {n k:NumV} {x y:Cq} (h:atN V n x) (h':atN V k y) (hx:okN x) (hy:okN y) :
 a00 Tryz.prog N0h #[n.val,k.val] V fun v V'=>∃r:NumV,v=r.val∧atN V' r (numO.mul x y) :=
 W04 (z:=x) (w:=y) h h' (by unfold okN at hx; omega) (by unfold okN at hy; omega)
theorem subN {V:View} {n k:NumV} {x y z:Cq} (h:atN V n x) (h':atN V k (numO.mul y z)) (hx:okN x) (hy:okN y) (hz:okN z) :
 a00 Tryz.prog O0h #[n.val,k.val] V fun v V'=>∃r:NumV,v=r.val∧atN V' r (numO.sub x (numO.mul y z)):=by
 have:=m01 y z
 unfold okN at hx hy hz
 exact N08 (z:=x) (w:=y*z) h h' (by omega) (by omega)
theorem b0h {V:View} {s:Sl} {p:Option Addr} {k:Nat} (hp:V.load p=some (.int .i64 (k:Int))) :
 a00 Tryz.prog K05 #[s.v,.pointer p] V fun v _=>v = .bool (decide (s.len≠k)):=by
 refine x0a s p V _ ⟨_,hp,?_⟩
 congr 1
 by_cases e:s.len=k
 · subst e; simp
 · simp[e]; omega
theorem u0f {V:View} {p:Sl} {rows:List (List Cq)} (h:W05 5 numC V p rows) (hn:rows.length≤2^40) (q:Fn1) {k:Nat} (hp:V.load q.p0=some (.int .i64 (k:Int))) :
 a00 Tryz.prog k06 #[p.v,q.val K05] V fun v _=>∃r:Int,v = .int .i64 r∧(0≤r↔∃row,row∈rows∧row.length≠k):=by
 have hl:p.len=rows.length:=h.len
 refine x03 p q V _ (fun _ x _=>∃t:Nat,x.t8=t∧t≤rows.length∧∀row,row∈rows.take t→row.length=k) (fun _ x _=>rows.length-x.t8.toNat) ⟨⟨0,rfl,by omega,by simp⟩,?_⟩
 rintro⟨t⟩ V1 l1 ⟨t',ht,htn,hi⟩
 dsimp only at ht ⊢
 subst ht
 refine⟨fun hlt => ?_,fun hge => ?_⟩
 · simp only[decide_eq_true_eq]at hlt
   have hk:t'<rows.length:=by omega
   obtain⟨g1,s,g2,g3⟩:=(h.le numC.le l1).row (t:=(t':Int)) (by omega) (row:=rows[t']) (by simp)
   refine⟨g1,s,g2,(b0h (Q03 l1 hp)).mono fun v V2 l2 hv=>⟨_,hv,fun hr=>⟨_,rfl,?_⟩,fun hr => ?_⟩⟩
   · have hne:=of_decide_eq_true hr
     rw[g3.len]at hne
     exact⟨fun _=>⟨rows[t'],List.getElem_mem hk,hne⟩,fun _=>by omega⟩
   · have he:s.len=k:=by simpa using hr
     rw[g3.len]at he
     rw[i64w (by omega) (by omega)]
     refine⟨⟨t'+1,by omega,by omega,fun row hrow => ?_⟩,by omega⟩
     rw[List.take_add_one,List.getElem?_eq_getElem hk]at hrow
     simp only[Option.toList_some,List.mem_append,List.mem_singleton]at hrow
     rcases hrow with hrow|hrow
     · exact hi row hrow
     · subst hrow; exact he
 · simp only[decide_eq_false_iff_not]at hge
   have e:t'=rows.length:=by omega
   subst e
   rw[List.take_length]at hi
   exact⟨-1,rfl,fun h=>absurd h (by omega),fun⟨row,h1,h2⟩=>absurd (hi row h1) h2⟩
theorem b0d {V:View} {p:Sl} {rows:List (List Cq)} (h:W05 5 numC V p rows) (hn:rows.length≤2^40) (q:Fn1) {k:Nat} (hp:V.load q.p0=some (.int .i64 (k:Int))) :
 a00 Tryz.prog P05 #[p.v,q.val K05] V fun v _=>v = .bool (rows.any fun row=>decide (row.length≠k)):=by
 refine S02 p q V _ ((u0f h hn q hp).mono fun v V1 l1 ⟨r,hv,hr⟩=>⟨r,hv,?_⟩)
 congr 1
 rw[Bool.eq_iff_iff]
 simp only[ge_iff_le,decide_eq_true_eq,List.any_eq_true]
 exact hr
def X08 (rows:List (List Cq)):Nat:=(rows.headD []).length
def u0i (rows:List (List Cq)):Bool:=rows.isEmpty||(decide (rows.length≤32)&&decide (X08 rows≤32) && !(rows.any fun row=>decide (row.length≠X08 rows)))
theorem d09 {V:View} {p:Sl} {rows:List (List Cq)} (h:W05 5 numC V p rows) (hn:rows.length≤2^40) :
 a00 Tryz.prog g0c #[p.v] V fun v _=>v = .tuple #[.int .i64 (X08 rows:Int),.bool (u0i rows)]:=by
 have hl:p.len=rows.length:=h.len
 refine y0b p V _ ⟨fun h0 => ?_,fun h0 => ?_⟩
 · have e:rows=[]:=List.length_eq_zero_iff.1 (by simp at h0; omega)
   subst e; rfl
 · have hne:0<rows.length:=by simp at h0; omega
   obtain⟨row,rest,e⟩:∃row rest,rows=row::rest:=by
    cases rows with
    | nil=>simp at hne
    | cons a l=>exact⟨a,l,rfl⟩
   obtain⟨g1,s,g2,g3⟩:=h.row (t:=(0:Int)) (by omega) (row:=row) (by subst e; rfl)
   refine⟨g1,s,g2,fun b1 V1 l1 hb1 => ?_⟩
   have hld:V1.load (some (Addr.mk b1 0 none))=some (.int .i64 (s.len:Int)):=by
    have:=a08 (j:=0) hb1
    simpa [Addr.add]using this
   have hs:s.len=X08 rows:=by subst e; exact g3.len
   rw[hs]at hld
   have hE:rows.isEmpty=false:=by subst e; rfl
   refine⟨_,hld,fun h1=>⟨_,hld,fun h2 => ?_,fun h2 => ?_⟩,fun h1 => ?_⟩
   · simp only[decide_eq_true_eq]at h1 h2
     refine(b0d (h.le numC.le l1) hn ⟨some (Addr.mk b1 0 none)⟩ hld).mono fun v V2 l2 hv=>⟨_,hv,?_⟩
     have e1:decide (rows.length≤32)=true:=by simp; omega
     have e2:decide (X08 rows≤32)=true:=by simp; omega
     simp only[u0i,hE,e1,e2,Bool.false_or,Bool.true_and]
   · simp only[decide_eq_false_iff_not]at h2
     have e2:decide (X08 rows≤32)=false:=by simp; omega
     simp only[u0i,hE,e2,Bool.false_or,Bool.and_false,Bool.false_and]
   · simp only[decide_eq_false_iff_not]at h1
     have e1:decide (rows.length≤32)=false:=by simp; omega
     simp only[u0i,hE,e1,Bool.false_or,Bool.false_and]
theorem c0d {V:View} {p:Sl} {rows:List (List Cq)} (h:W05 5 numC V p rows) (hn:rows.length≤2^40) :
 a00 Tryz.prog w07 #[p.v] V fun v _=>v = .bool (u0i rows&&decide (X08 rows=rows.length)):=by
 have hl:p.len=rows.length:=h.len
 refine e0b p V _ ((d09 h hn).mono fun v V1 l1 hv=>⟨_,_,hv,fun h1 => ?_,fun h1 => ?_⟩)
 · rw[h1,Bool.true_and,hl]
   congr 1
   by_cases e:X08 rows=rows.length
   · simp[e]
   · simp[e]; omega
 · rw[h1,Bool.false_and]
theorem u0x {V:View} {o:List Value} {row:List Cq} (h:x01 5 numC V o row):∀v∈o,Value.oneCell' v=true:=by
 induction row generalizing o with
 | nil=>rw[show o=[]from h]; simp
 | cons z zs ih =>
   obtain⟨x,o',e,hx,hp,ht⟩:=h
   subst e
   intro v hv
   rw[List.mem_append]at hv
   rcases hv with hv|hv
   · exact oneN hp v hv
   · exact ih ht v hv
theorem w0f {m V:View} {s:Sl} {row:List Cq} {o:List Value} (hC:x01 5 numC V o row) (ho:has2 m V s.a o) (hl:s.len=row.length) (ha:s.a=none→row=[]) (hb:row.length≤2^30) :
 X07 Tryz.prog u07 #[s.v] m V fun v m' V'=>∃(r:Sl) (b:Nat),v=r.v∧RowR 5 numC m' V' r b row∧(row≠[]→m b=none)∧(∀i,i≠b∨row=[]→m' i=m i):=by
 refine m07 m s V _ ⟨trivial,fun h => ?_,fun h b1 V1 l1 hf hb1 => ?_⟩
 · have e:=ha (by simpa using h)
   exact⟨⟨none,0,0⟩,0,rfl,⟨by rw[e]; rfl,Nat.le_refl _,fun _=>rfl,fun h=>absurd e h⟩,fun h=>absurd e h,fun _ _=>rfl⟩
 · have hol:=hC.length
   refine⟨[],o,⟨Nat.le_refl _,fun h=>by simp at h⟩,.inl (by intro j v hj; simp at hj),by simp,J0f l1 ho,by rw[hol,hl],u0x hC,by unfold maxLen; omega,by omega,fun h1 h2=>by omega,fun a1 c1 m1 ha1 => ?_⟩
   have hC1:x01 5 numC V1 o row:=hC.imp (numC.le l1)
   obtain⟨b,hr,hb2,hm,hm2⟩:=o0k hC1 rfl hl ha1
   exact⟨_,b,rfl,hr,hb2,fun i hi=>by
    rcases hi with hi|hi
    · exact hm i hi
    · rw[hm2 hi]⟩
def W07 (A:Nat→Nat→Cq) (w:Nat) (C:Nat→Nat→Cq):Nat→Nat→Cq:=fun i k=>if k<w then A i k else C (k-w) i
theorem D0e {V:View} {p q:Sl} {n w u:Nat} {A C:Nat→Nat→Cq} (h:W05 5 numC V p (matL n w A)) (hq:W05 5 numC V q (matL u n C)) (hn:n≤2^20) (hw:w≤2^20) (hu:u≤2^20) :
 X07 Tryz.prog C0c #[p.v,q.v] (fun _=>none:View) V fun v m' V'=>∃r:Sl,v=r.v∧MatR 5 numC m' V' r n (w+u) (W07 A w C):=by
 have hl:p.len=n:=by have:=h.len; rw[D01]at this; exact this
 have hql:q.len=u:=by have:=hq.len; rw[D01]at this; exact this
 refine j0c (fun _=>none) p q V _ (fun _ x V'=>∃t:Nat,x.t15=t∧t≤n∧x.o12.length=n∧d06 5 numC x.o0 V' x.o12 t (fun i=>rowL (w+u) (W07 A w C i))) (fun _ x _=>n-x.t15.toNat)
  (fun c x V'=>∃t k:Nat,c.t15=t∧t<n∧x.t27=k∧k≤u∧x.o12.length=n∧d06 5 numC x.o0 V' x.o12 (t+1) (fun i=>if i=t then rowL (w+k) (W07 A w C i)else rowL (w+u) (W07 A w C i))) (fun _ x _=>u-x.t27.toNat) ?_
 rw[hl]
 refine⟨⟨by omega,by omega,by omega,by omega⟩,⟨0,rfl,by omega,by simp,I0i _ _ _ _⟩,?_⟩
 rintro⟨t15,o0,o12⟩ V1 l1 ⟨t,ht,htn,hlen,hR⟩
 dsimp only at ht hlen hR ⊢
 subst ht
 refine⟨fun hlt => ?_,fun hge => ?_⟩
 · simp only[decide_eq_true_eq]at hlt
   have hk:t<n:=by omega
   obtain⟨g1,s,g2,g3⟩:=(h.le numC.le l1).row (t:=(t:Int)) (by omega) (row:=rowL w (A t)) (by rw[Int.toNat_natCast]; exact t08 hk A)
   rw[hl]at g1
   obtain⟨o,ho,hC⟩:=g3.cells
   refine⟨g1,s,.inr g2,?_⟩
   refine(w0f hC (.inr ho) g3.len (fun e => ?_) (by rw[n00]; omega)).mono fun v m1 V2 l2 _ ⟨r,b,hv,hr,hb,hm⟩=>⟨r,hv,⟨by omega,by omega⟩,by rw[hlen,Int.toNat_natCast]; omega,?_,?_⟩
   · by_cases e2:rowL w (A t)=[]
     · exact e2
     · have:=g3.some e2; rw[e]at this; simp at this
   · refine⟨t,0,rfl,hk,rfl,by omega,by simp[hlen],?_⟩
     have:=(hR.le numC.le l2).push (by omega) hr hb hm
     have e1:(0+Int.toNat (t:Int)*1)=t:=by omega
     rw[e1]
     refine this.congr fun i hi => ?_
     by_cases e:i=t
     · subst e
       simp only[if_true,Nat.add_zero]
       exact Q02 fun k hk=>by simp[W07,hk]
     · simp[e]
   · rintro⟨t27,o0',o12'⟩ V3 l3 ⟨t',k,ht',htn',hk27,hku,hlen',hR'⟩
     dsimp only at ht' hk27 hlen' hR' ⊢
     have:t'=t:=by omega
     subst this
     subst hk27
     rw[hql]
     refine⟨fun hlt2 => ?_,fun hge2 => ?_⟩
     · simp only[decide_eq_true_eq]at hlt2
       have hku2:k<u:=by omega
       have lq:=View.le_trans l1 (View.le_trans l2 l3)
       obtain⟨q1,s2,q2,q3⟩:=(hq.le numC.le lq).row (t:=(k:Int)) (by omega) (row:=rowL n (C k)) (by rw[Int.toNat_natCast]; exact t08 hku2 C)
       rw[hql]at q1
       obtain⟨s3,e3,r1,r2,r3,⟨o3,r4,r5,r6⟩,r7⟩:=hR'.row (i:=t') (by omega)
       obtain⟨c1,x,hx,hxl,hh,hs⟩:=t00.get q3 (t:=(t':Int)) (by omega) (z:=C k t') (by rw[Int.toNat_natCast]; exact i05 hk _)
       obtain⟨y,ey,hy⟩:=elN hx
       subst ey
       simp only[if_true]at r1 r6
       rw[n00]at r1
       refine⟨q1,s2,.inr q2,⟨by omega,by omega⟩,s3,by rw[Int.toNat_natCast,Nat.mul_one,Nat.zero_add]; exact e3,c1,y,.inr hh,hs,fun b1 V4 l4 hf4 hb4 => ?_⟩
       have hnew:V4.has (some (Addr.mk b1 0 none)) y.val.cells.toList:=by
        refine b08 (cs:=y.val.cells.toList) (j:=0) hb4 (fun i v hv=>by rw[Nat.zero_add]; exact hv) rfl
       refine⟨o3,_,⟨r2,r3⟩,J0f l4 r4,r5,.inr hnew,by rw[hxl],oneN (numC.le l4 _ _ hx),by unfold maxLen; omega,by omega,fun _ h2=>r7 1 (by omega) h2,fun a1 c1 m2 ha=>⟨⟨by omega,by omega⟩,by rw[hlen',Int.toNat_natCast]; omega,?_⟩⟩
       have:=(hR'.le numC.le l4).app (i:=t') (by omega) e3 hxl (numC.le l4 _ _ hx) (o':=o3) (by simp only[if_true]; exact r6.imp (numC.le l4)) ha
       rw[i64w (by omega) (by omega)]
       refine⟨⟨t',k+1,rfl,htn',by omega,by omega,by simp[hlen'],?_⟩,by omega⟩
       have e1:(0+Int.toNat (t':Int)*1)=t':=by omega
       rw[e1]
       refine this.congr fun i hi => ?_
       by_cases e:i=t'
       · subst e
         simp only[if_true]
         rw[show C k i=W07 A w C i (w+k)by unfold W07; rw[if_neg (by omega),Nat.add_sub_cancel_left],M0c]; rfl
       · simp[e]
     · simp only[decide_eq_false_iff_not]at hge2
       have e:k=u:=by omega
       subst e
       rw[i64w (by omega) (by omega)]
       refine⟨⟨t'+1,by omega,by omega,hlen',hR'.congr fun i hi => ?_⟩,by omega⟩
       by_cases e:i=t'<;>simp[e]
 · simp only[decide_eq_false_iff_not]at hge
   intro b3 hb3 hb4
   have e:t=n:=by omega
   subst e
   rw[Int.toNat_natCast]
   exact⟨_,rfl,hR.mat hlen hb3⟩
theorem s0c {m V:View} {p:Sl} {n w:Nat} {A:Nat→Nat→Cq} (Q:Nat→Cq→Prop) (h:MatR 5 numC m V p n w A) (hn:n≤w) (hw:w≤2^20)
 (q1:∀c x,c≤n→Q c x→okN x) (q2:∀c x y z u,Q c x→Q c y→Q c z→Q c u→Q (c+1) (numO.sub x (numO.mul (numO.div y z) u))) (q3:∀c x,Q c x→Q (c+1) x) (hA:∀i j,i<n→j<w→Q 0 (A i j)) :
 X07 Tryz.prog U0a #[p.v] m V fun v m' V'=>v = .tuple #[.int .i64 ((elim numO n w A).2.1:Nat),.int .i64 (match (elim numO n w A).2.2 with|none => -1|some c=>(c:Int))]∧MatR 5 numC m' V' p n w (elim numO n w A).1:=by
 have hl:=h.len
 refine y0a m p V _
  (fun _ x V'=>∃(c s:Nat) (B:Nat→Nat→Cq),x.t13=c∧x.t4=s∧c≤n∧s≤c∧MatR 5 numC x.o0 V' p n w B∧i07 numO n w (n-c) c B s=elim numO n w A∧∀i j,i<n→j<w→Q c (B i j))
  (fun _ x _=>n-x.t13.toNat)
  (fun c x V'=>∃(k s:Nat) (B:Nat→Nat→Cq),c.t13=k∧c.t4=s∧k<n∧s≤k∧MatR 5 numC c.o0 V' p n w B∧i07 numO n w (n-k) k B s=elim numO n w A∧(∀i j,i<n→j<w→Q k (B i j))∧x.t6=(pivF numO B k n:Nat))
  (fun c x V'=>∃(k s:Nat) (B:Nat→Nat→Cq) (t:Nat),c.t13=k∧c.t4=s∧k<n∧s≤k∧MatR 5 numC c.o0 V' p n w B∧i07 numO n w (n-k) k B s=elim numO n w A∧(∀i j,i<n→j<w→Q k (B i j))∧x.t6=t∧k≤t∧t≤n∧∀q,k≤q→q<t→numO.clr (B q k)=false)
  (fun _ x _=>n-x.t6.toNat)
  (fun c x V'=>∃(k s:Nat) (B:Nat→Nat→Cq),c.t13=k∧x.t4=s∧k<n∧s≤k+1∧MatR 5 numC x.o0 V' p n w B∧i07 numO n w (n-(k+1)) (k+1) (colF numO w B k n) s=elim numO n w A∧(∀i j,i<n→j<w→Q k (B i j))∧numO.clr (B k k)=true)
  (fun c x V'=>∃(k s:Nat) (B:Nat→Nat→Cq) (R:Nat),c.t13=k∧c.t4=s∧k<n∧s≤k+1∧x.t7=R∧k<R∧R≤n∧MatR 5 numC x.o0 V' p n w (colF numO w B k R)∧i07 numO n w (n-(k+1)) (k+1) (colF numO w B k n) s=elim numO n w A∧(∀i j,i<n→j<w→Q k (B i j))∧numO.clr (B k k)=true)
  (fun _ x _=>n-x.t7.toNat)
  (fun c x V'=>∃(k s:Nat) (B:Nat→Nat→Cq) (R K:Nat),c.t13=k∧c.t4=s∧k<n∧s≤k+1∧c.t7=R∧k<R∧R<n∧x.t10=K∧k<K∧K≤w∧atN V' c.o8 (numO.div (B R k) (B k k)) ∧
    MatR 5 numC x.o0 V' p n w (rowF numO (colF numO w B k R) k R (numO.div (B R k) (B k k)) K)∧i07 numO n w (n-(k+1)) (k+1) (colF numO w B k n) s=elim numO n w A∧(∀i j,i<n→j<w→Q k (B i j))∧numO.clr (B k k)=true)
  (fun _ x _=>w-x.t10.toNat) ?_
 rw[hl]
 refine⟨⟨0,0,A,rfl,rfl,by omega,by omega,h,by rw[Nat.sub_zero]; rfl,hA⟩,?_⟩
 rintro⟨t4,t13,o0⟩ V1 l1 ⟨c,s,B,e13,e4,hc,hs,hM,hE,hQ⟩
 dsimp only at e13 e4 hM ⊢
 subst e13; subst e4
 refine⟨fun hlt=>⟨⟨⟨c,s,B,c,rfl,rfl,by simp at hlt; omega,hs,hM,hE,hQ,rfl,by omega,hc,fun q h1 h2=>by omega⟩,?_⟩,?_⟩,fun hge => ?_⟩
 ·
   rintro⟨t6⟩ V3 l3 ⟨k,s',B',t,e13,e4,hk,hs',hM',hE',hQ',e6,h1,h2,h3⟩
   dsimp only at e13 e4 e6 hM' ⊢
   obtain rfl:c=k:=by omega
   obtain rfl:s=s':=by omega
   subst e6
   refine⟨fun hlt2 => ?_,fun hge2 => ?_⟩
   · simp only[decide_eq_true_eq]at hlt2
     have ht:t<n:=by omega
     obtain⟨g1,sl,g2,g3,g4,g5,g6,g7,g8⟩:=hM'.row ht
     obtain⟨x,hx,hxl,hh,hsm⟩:=g7 c (by omega)
     obtain⟨y,ey,hy⟩:=elN hx
     subst ey
     refine⟨⟨by omega,by omega,g1⟩,sl,.inl (by rw[Int.toNat_natCast]; exact g2),⟨by omega,by omega,g5 (by omega)⟩,y,by rw[Int.toNat_natCast]; exact hh,by rw[Int.toNat_natCast]; exact hsm,?_⟩
     refine(Q0w hy (q1 c _ (by omega) (hQ' t c ht (by omega)))).mono fun v V4 l4 hv=>⟨_,hv,fun hb => ?_,fun hb => ?_⟩
     · rw[i64w (by omega) (by omega)]
       refine⟨⟨c,s,B',t+1,rfl,rfl,hk,hs',hM'.le numC.le l4,hE',hQ',by omega,by omega,by omega,fun q hq1 hq2 => ?_⟩,by omega⟩
       by_cases e:q=t
       · subst e; simpa using hb
       · exact h3 q hq1 (by omega)
     · refine⟨c,s,B',rfl,rfl,hk,hs',hM'.le numC.le l4,hE',hQ',?_⟩
       rw[x0l numO B' h1 h2 h3 (fun _=>by simpa using hb)]
   · simp only[decide_eq_false_iff_not]at hge2
     have e:t=n:=by omega
     refine⟨c,s,B',rfl,rfl,hk,hs',hM',hE',hQ',?_⟩
     rw[x0l numO B' h1 h2 h3 (fun h=>by omega)]
 ·
   rintro⟨t6⟩ V2 l2 ⟨k,s',B',e13,e4,hk,hs',hM',hE',hQ',e6⟩
   dsimp only at e13 e4 e6 hM' ⊢
   obtain rfl:c=k:=by omega
   obtain rfl:s=s':=by omega
   subst e6
   obtain⟨p1,p2,p3,p4⟩:=L08 numO B' (c:=c) (n:=n) (by omega)
   refine⟨fun heq => ?_,fun hne=>⟨⟨fun hsw => ?_,fun hns => ?_⟩,?_⟩⟩
   · have e:pivF numO B' c n=n:=by simp at heq; omega
     rw[←hE',O0r numO n w hk B' s e]
     exact⟨rfl,hM'⟩
   · have hpn:pivF numO B' c n<n:=by simp at hne; omega
     have hpc:pivF numO B' c n≠c:=by simp at hsw; omega
     obtain⟨g1,sc,g2,_⟩:=hM'.row hk
     obtain⟨_,sp,k2,_⟩:=hM'.row hpn
     obtain⟨b1,c1,l1',u1,u2,u3,b2,c2,l2',u4,u5,u6,u7⟩:=hM'.swap (by omega) hk hpn g2 k2
     refine⟨⟨by omega,by omega,g1⟩,sc,.inl (by rw[Int.toNat_natCast]; exact g2),⟨by omega,by omega,g1⟩,sp,.inl (by rw[Int.toNat_natCast]; exact k2),⟨by omega,by omega,g1⟩,b1,c1,l1',by rw[Int.toNat_natCast]; exact u1,u2,u3,⟨by omega,by omega,g1⟩,b2,c2,l2',by rw[Int.toNat_natCast]; exact u4,u5,u6,?_⟩
     rw[S0p numO n w hk B' s (by omega),if_neg hpc]at hE'
     have ep:c09 B' c (pivF numO B' c n)=K08 B' c (pivF numO B' c n):=by unfold c09; rw[if_neg hpc]
     rw[i64w (by omega) (by omega)]
     refine⟨c,s+1,K08 B' c (pivF numO B' c n),rfl,by omega,hk,by omega,u7,by rw[←ep]; exact hE',fun i j hi hj => ?_,?_⟩
     · unfold K08
       split
       · exact hQ' _ j hpn hj
       · split
         · exact hQ' _ j hk hj
         · exact hQ' i j hi hj
     · simp only[K08,if_true]; exact p4 hpn
   · have hpc:pivF numO B' c n=c:=by simp at hns; omega
     have hpn:pivF numO B' c n<n:=by omega
     rw[S0p numO n w hk B' s (by omega),if_pos hpc]at hE'
     have ep:c09 B' c (pivF numO B' c n)=B':=by unfold c09; rw[if_pos hpc]
     rw[ep]at hE'
     exact⟨c,s,B',rfl,rfl,hk,by omega,hM',hE',hQ',by have:=p4 hpn; rw[hpc]at this; exact this⟩
   ·
     clear p1 p2 p3 p4 hE' hQ' hM'
     rintro⟨t4',o0'⟩ V5 l5 ⟨k,s2,B2,e13',e4',hk2,hs2,hM2,hE2,hQ2,hcl⟩
     dsimp only at e13' e4' hM2 ⊢
     obtain rfl:c=k:=by omega
     subst e4'
     refine⟨⟨c,s2,B2,c+1,rfl,rfl,hk,hs2,by rw[i64w (by omega) (by omega)]; omega,by omega,by omega,by rw[M0r]; exact hM2,hE2,hQ2,hcl⟩,?_⟩
     clear hM2 hE2 hQ2 hcl
     rintro⟨t7,o0''⟩ V6 l6 ⟨k,s3,B3,R,f13,f4,hk3,hs3,f7,hkR,hRn,hM3,hE3,hQ3,hcl3⟩
     dsimp only at f13 f4 f7 hM3 ⊢
     obtain rfl:c=k:=by omega
     obtain rfl:s2=s3:=by omega
     subst f7
     refine⟨fun hlt2 => ?_,fun hge2 => ?_⟩
     · simp only[decide_eq_true_eq]at hlt2
       have hR:R<n:=by omega
       obtain⟨g1,sr,g2,g3,g4,g5,g6,g7,g8⟩:=hM3.row hR
       obtain⟨_,sc,k2,k3,k4,k5,k6,k7,k8⟩:=hM3.row hk
       obtain⟨x,hx,hxl,hh,hsm⟩:=g7 c (by omega)
       obtain⟨x',hx',hxl',hh',hsm'⟩:=k7 c (by omega)
       rw[Q0p]at hx
       rw[P0p]at hx'
       obtain⟨y,ey,hy⟩:=elN hx
       obtain⟨y',ey',hy'⟩:=elN hx'
       subst ey; subst ey'
       refine⟨⟨by omega,by omega,g1⟩,sr,.inl (by rw[Int.toNat_natCast]; exact g2),⟨by omega,by omega,g5 (by omega)⟩,y,by rw[Int.toNat_natCast]; exact hh,by rw[Int.toNat_natCast]; exact hsm,
        ⟨by omega,by omega,g1⟩,sc,.inl (by rw[Int.toNat_natCast]; exact k2),⟨by omega,by omega,k5 (by omega)⟩,y',by rw[Int.toNat_natCast]; exact hh',by rw[Int.toNat_natCast]; exact hsm',?_⟩
       have qR:=hQ3 R c hR (by omega)
       have qc:=hQ3 c c hk (by omega)
       refine(divN hy hy' (q1 c _ (by omega) qR) (q1 c _ (by omega) qc) hcl3).mono fun v V7 l7 ⟨r2,hv,hr2⟩=>⟨r2,0,hv,⟨c,s2,B3,R,c+1,rfl,rfl,hk,hs3,rfl,hkR,hR,by rw[i64w (by omega) (by omega)]; omega,by omega,by omega,hr2,?_,hE3,hQ3,hcl3⟩,?_⟩
       · rw[N0r]; exact hM3.le numC.le l7
       · clear hM3 g1 g2 g3 g4 g5 g6 g7 g8 k2 k3 k4 k5 k6 k7 k8 hh hsm hh' hsm' hx hx' hy hy'
         rintro⟨t10,o0'''⟩ V8 l8 ⟨k,s4,B4,R',K,d13,d4,hk4,hs4,d7,hkR4,hR4,d10,hkK,hKw,hf,hM4,hE4,hQ4,hcl4⟩
         dsimp only at d13 d4 d7 d10 hf hM4 ⊢
         obtain rfl:c=k:=by omega
         obtain rfl:s2=s4:=by omega
         obtain rfl:R=R':=by omega
         subst d10
         obtain⟨g1,sr,g2,g3,g4,g5,g6,g7,g8⟩:=hM4.row hR
         refine⟨⟨by omega,by omega,g1⟩,sr,.inl (by rw[Int.toNat_natCast]; exact g2),fun hlt3 => ?_,fun hge3 => ?_⟩
         · simp only[decide_eq_true_eq]at hlt3
           have hK:K<w:=by omega
           obtain⟨_,sc,k2,k3,k4,k5,k6,k7,k8⟩:=hM4.row hk
           obtain⟨x,hx,hxl,hh,hsm⟩:=g7 K hK
           obtain⟨x',hx',hxl',hh',hsm'⟩:=k7 K hK
           rw[G0w,Q0p]at hx
           rw[F0w numO _ _ _ (by omega),P0p]at hx'
           obtain⟨y,ey,hy⟩:=elN hx
           obtain⟨y',ey',hy'⟩:=elN hx'
           subst ey; subst ey'
           have qR:=hQ4 R c hR (by omega)
           have qc:=hQ4 c c hk (by omega)
           have qRK:=hQ4 R K hR hK
           have qcK:=hQ4 c K hk hK
           refine⟨⟨by omega,by omega,g1⟩,sr,.inl (by rw[Int.toNat_natCast]; exact g2),⟨by omega,by omega,g1⟩,sr,.inl (by rw[Int.toNat_natCast]; exact g2),⟨by omega,by omega,g5 (by omega)⟩,y,by rw[Int.toNat_natCast]; exact hh,by rw[Int.toNat_natCast]; exact hsm,
            ⟨by omega,by omega,g1⟩,sc,.inl (by rw[Int.toNat_natCast]; exact k2),⟨by omega,by omega,k5 (by omega)⟩,y',by rw[Int.toNat_natCast]; exact hh',by rw[Int.toNat_natCast]; exact hsm',?_⟩
           refine(s0x hf hy' (q1 c _ (by omega) qR) (q1 c _ (by omega) qc) (q1 c _ (by omega) qcK)).mono fun v V9 l9 ⟨r4,hv,hr4⟩=>⟨r4,hv,?_⟩
           refine(t0x (atN.le l9 hy) hr4 (q1 c _ (by omega) qRK) (q1 c _ (by omega) qR) (q1 c _ (by omega) qc) (q1 c _ (by omega) qcK)).mono fun v V10 l10 ⟨r5,hv,hr5⟩=>⟨r5,hv,⟨by omega,by omega,g5 (by omega)⟩,?_⟩
           obtain⟨v1,v2,b3,c3,l3,v3,v4,v5,v6⟩:=(hM4.le numC.le (View.le_trans l9 l10)).put hR hK (lenN r5) (K0t hr5) g2
           refine⟨b3,c3,l3,by rw[Int.toNat_natCast]; exact v3,v4,v5,?_⟩
           rw[i64w (by omega) (by omega)]
           refine⟨⟨c,s2,B4,R,K+1,rfl,rfl,hk,hs4,rfl,hkR,hR,by omega,by omega,by omega,atN.le (View.le_trans l9 l10) hf,?_,hE4,hQ4,hcl4⟩,by omega⟩
           have e:=i0t numO (colF numO w B4 c R) (c:=c) (R:=R) (numO.div (B4 R c) (B4 c c)) hkK
           rw[←e,Q0p,P0p]; exact v6
         · simp only[decide_eq_false_iff_not]at hge3
           have e:K=w:=by omega
           subst e
           rw[i64w (by omega) (by omega)]
           rw[H0u numO K B4 hkR]at hM4
           exact⟨⟨c,s2,B4,R+1,rfl,rfl,hk,hs4,by omega,by omega,by omega,hM4,hE4,hQ4,hcl4⟩,by omega⟩
     · simp only[decide_eq_false_iff_not]at hge2
       have e:R=n:=by omega
       subst e
       rw[i64w (by omega) (by omega)]
       refine⟨⟨c+1,s2,colF numO w B3 c R,by omega,rfl,by omega,hs3,hM3,hE3,fun i j hi hj => ?_⟩,by omega⟩
       unfold colF
       split
       · exact q2 c _ _ _ _ (hQ3 i j hi hj) (hQ3 i c hi (by omega)) (hQ3 c c hk (by omega)) (hQ3 c j hk hj)
       · exact q3 c _ (hQ3 i j hi hj)
 · simp only[decide_eq_false_iff_not]at hge
   have e:c=n:=by omega
   subst e
   rw[j0t]at hE
   rw[←hE]
   exact⟨rfl,hM⟩
theorem w0i {n w:Nat} (A:Nat→Nat→Cq) (hn:n≤32) (hw:w≤32):u0i (matL n w A)=true∧(0<n→X08 (matL n w A)=w)∧(n=0→X08 (matL n w A)=0):=by
 have hc:0<n→X08 (matL n w A)=w:=by
  intro h
  unfold X08 matL
  obtain⟨m,rfl⟩:∃m,n=m+1:=⟨n-1,by omega⟩
  rw[List.range_succ_eq_map]
  simp[n00]
 refine⟨?_,hc,fun h=>by subst h; rfl⟩
 unfold u0i
 rcases Nat.eq_zero_or_pos n with h|h
 · subst h; rfl
 · rw[hc h,D01]
   have e:((matL n w A).any fun row=>decide (row.length≠w))=false:=by
    rw[List.any_eq_false]
    intro row hrow
    unfold matL at hrow
    obtain⟨i,_,rfl⟩:=List.mem_map.1 hrow
    simp[n00]
   rw[e]
   simp[hn,hw]
theorem S0w {V:View} {p:Sl} {n:Nat} {A:Nat→Nat→Cq} (h:W05 5 numC V p (matL n n A)) (hn:n≤32):a00 Tryz.prog w07 #[p.v] V fun v _=>v = .bool true:=by
 refine(c0d h (by rw[D01]; omega)).mono fun v V1 _ hv => ?_
 obtain⟨h1,h2,h3⟩:=w0i A hn hn
 rw[hv,h1,D01]
 rcases Nat.eq_zero_or_pos n with e|e
 · rw[h3 e,e]; rfl
 · rw[h2 e]; simp
structure W0v (n:Nat) (Q:Cq→Prop) (qs:Nat→Nat→Cq→Prop) (qx:Nat→Cq→Prop):Prop where
 r0:∀j x,j<n→Q x→qs j 0 x
 r1:∀j i s a x,j<n→i<j→qs j i s→Q a→qx j x→qs j (i+1) (numO.sub s (numO.mul a x))
 r2:∀j s a,j<n→qs j j s→Q a→qx (j+1) (numO.div s a)
 r3:∀j x,j<n→qx j x→qx (j+1) x
 k1:∀x,Q x→okN x
 k2:∀j i s,j<n→i≤j→qs j i s→okN s
 k3:∀j x,j≤n→qx j x→okN x
theorem x0f {V:View} {p q:Sl} {n:Nat} {A:Nat→Nat→Cq} {b:Nat→Cq} (h:W05 5 numC V p (matL n n A)) (hb:t00 5 numC V q (rowL n b)) (hn:n≤32)
 (Q:Nat→Cq→Prop) (q1:∀c x,c≤n→Q c x→okN x) (q2:∀c x y z u,Q c x→Q c y→Q c z→Q c u→Q (c+1) (numO.sub x (numO.mul (numO.div y z) u))) (q3:∀c x,Q c x→Q (c+1) x)
 (hA:∀i j,i<n→j<n→Q 0 (A i j)) (hB:∀i,i<n→Q 0 (b i)) (qs:Nat→Nat→Cq→Prop) (qx:Nat→Cq→Prop) (hk:W0v n (Q n) qs qx) :
 a00 Tryz.prog a09 #[p.v,q.v] V fun v V'=>∃r:Sl,match (elim numO n (n+1) (W07 A n fun _ i=>b i)).2.2 with
  | none=>v = .tuple #[r.v,.int .i64 0]∧t00 5 numC V' r (rowL n (y06 numO Cq.zero (elim numO n (n+1) (W07 A n fun _ i=>b i)).1 n n))
  | some _=>v = .tuple #[r.v,.int .i64 6]∧r=⟨none,0,0⟩:=by
 have hpl:p.len=n:=by have:=h.len; rw[D01]at this; exact this
 have hql:q.len=n:=by have:=hb.len; rw[n00]at this; exact this
 let W:=W07 A n fun _ i=>b i
 let B:=(elim numO n (n+1) W).1
 have hWQ:∀i j,i<n→j<n+1→Q 0 (W i j):=by
  intro i j hi hj
  show Q 0 (if j<n then A i j else b i)
  split
  · exact hA i j hi (by assumption)
  · exact hB i hi
 have hBQ:∀i j,i<n→j<n+1→Q n (B i j):=j0i numO Q n (n+1) q2 q3 n 0 W 0 (by omega) (by omega) hWQ
 refine E0c p q V _ (fun _ _ _=>True)
  (fun _ x V'=>∃j:Nat,x.t10=(n:Int)-1-j∧j≤n∧x01 5 numC V' x.o37 (rowL n (y06 numO Cq.zero B n j))∧∀i,n-j≤i→i<n→qx j (y06 numO Cq.zero B n j i))
  (fun _ x _=>(x.t10+1).toNat)
  (fun c x V'=>∃j i:Nat,c.t10=(n:Int)-1-j∧j<n∧x.t12=(n:Int)-j+i∧i≤j∧x01 5 numC V' x.o37 (rowL n (y06 numO Cq.zero B n j))∧(∀i,n-j≤i→i<n→qx j (y06 numO Cq.zero B n j i)) ∧
    atN V' x.o11 (s0j numO B (y06 numO Cq.zero B n j) (n-(j+1)) n i)∧qs j i (s0j numO B (y06 numO Cq.zero B n j) (n-(j+1)) n i))
  (fun _ x _=>n-x.t12.toNat) ?_
 rw[hpl,hql]
 refine⟨(S0w h hn).mono fun v V2 l2 hv=>⟨true,hv,fun hf=>absurd hf (by simp),fun _=>⟨fun hf=>absurd hf (by simp),fun _=>trivial⟩⟩,?_⟩
 rintro⟨u⟩ V1 l1 -
 intro b3 V5 l5 _ hb3
 have hmore:W05 5 numC V5 ⟨some (Addr.mk b3 0 none),1,1⟩ (matL 1 n fun _ i=>b i):=by
  have hb5:t00 5 numC V5 q (rowL n b):=hb.le (numC.le (View.le_trans l1 l5)) (View.le_trans l1 l5)
  refine t00.of_block (o:=[q.v]) (o':=[]) (b:=b3) (fun _=>by simpa using hb3) ?_ (by rw[D01]) (Nat.le_refl _) (fun _=>rfl)
  exact⟨[q.v],[],rfl,rfl,⟨q,rfl,hb5⟩,rfl⟩
 refine(D0e (h.le numC.le (View.le_trans l1 l5)) hmore (by omega) (by omega) (by omega)).mono fun v m1 V6 l6 _ ⟨r2,hv,hM⟩=>⟨r2,hv,?_⟩
 refine(s0c Q hM (by omega) (by omega) q1 q2 q3 hWQ).mono fun v m2 V7 l7 _ ⟨hv,hM2⟩=>⟨_,_,hv,by decide,fun V8 l8 hpub => ?_⟩
 have hRB:W05 5 numC V8 r2 (matL n (n+1) B):=hM2.known (numC.le l8) hpub
 have hr2:r2.len=n:=by have:=hRB.len; rw[D01]at this; exact this
 cases hstop:(elim numO n (n+1) W).2.2 with
 | some c =>
   exact⟨fun _=>⟨⟨none,0,0⟩,rfl,rfl⟩,fun hf=>absurd hf (by simp)⟩
 | none =>
   have hdiag:=Z0f numO n (n+1) n 0 W 0 (by omega) (fun i hi=>absurd hi (by omega)) hstop
   refine⟨fun hf=>absurd hf (by simp),fun _ => ?_⟩
   refine⟨⟨by omega,by omega,by omega,by omega⟩,⟨0,by rw[i64w (by omega) (by omega)]; show(n:Int)-1=_; omega,by omega,?_,fun i h1 h2=>by omega⟩,?_⟩
   · have:=x01.replicate (sz:=5) (P:=numC) (V:=V8) rfl (q0x V8) n
     rw[Int.toNat_natCast]
     have e:rowL n (y06 numO Cq.zero B n 0)=List.replicate n Cq.zero:=Y0f n Cq.zero
     rw[e]; exact this
   rintro⟨t10,o37⟩ V9 l9 ⟨j,e10,hj,hC,hx⟩
   dsimp only at e10 hC ⊢
   refine⟨fun hge => ?_,fun hlt => ?_⟩
   · have hjn:j<n:=by simp at hge; omega
     have ec:t10.toNat=n-(j+1):=by omega
     obtain⟨g1,s1,g2,g3⟩:=(hRB.le numC.le l9).row (t:=t10) (by omega) (row:=rowL (n+1) (B (n-(j+1)))) (by rw[ec]; exact t08 (by omega) B)
     obtain⟨c1,x,hxx,hxl,hh,hs⟩:=t00.get g3 (t:=(n:Int)) (by omega) (z:=B (n-(j+1)) n) (by rw[Int.toNat_natCast]; exact i05 (by omega) _)
     obtain⟨y,ey,hy⟩:=elN hxx
     subst ey
     refine⟨g1,s1,g2,c1,y,hh,hs,⟨j,0,e10,hjn,by rw[i64w (by omega) (by omega)]; omega,by omega,hC,hx,hy,hk.r0 j _ hjn (hBQ _ _ (by omega) (by omega))⟩,?_⟩
     clear hh hs hxx hxl g2 g3 c1
     rintro⟨t12,o11,o37'⟩ V10 l10 ⟨j',i,e10',hj',e12,hi,hC',hx',hS,hqS⟩
     dsimp only at e10' e12 hC' hS ⊢
     obtain rfl:j=j':=by omega
     obtain⟨g1,s1,g2,g3⟩:=(hRB.le numC.le (View.le_trans l9 l10)).row (t:=t10) (by omega) (row:=rowL (n+1) (B (n-(j+1)))) (by rw[ec]; exact t08 (by omega) B)
     refine⟨fun hlt2 => ?_,fun hge2 => ?_⟩
     · have hij:i<j:=by simp at hlt2; omega
       have ek:t12.toNat=n-(j+1)+1+i:=by omega
       obtain⟨c1,x,hxx,hxl,hh,hs⟩:=t00.get g3 (t:=t12) (by omega) (z:=B (n-(j+1)) (n-(j+1)+1+i)) (by rw[ek]; exact i05 (by omega) _)
       obtain⟨y1,ey,hy1⟩:=elN hxx
       subst ey
       obtain⟨x',hx2,hxl2,hg⟩:=hC'.at (i:=t12.toNat) (z:=y06 numO Cq.zero B n j (n-(j+1)+1+i)) (by rw[ek]; exact i05 (by omega) _)
       obtain⟨y2,ey2,hy2⟩:=elN hx2
       subst ey2
       have qa:=hBQ (n-(j+1)) (n-(j+1)+1+i) (by omega) (by omega)
       have qX:=hx' (n-(j+1)+1+i) (by omega) (by omega)
       have okx:=hk.k3 j _ (by omega) qX
       refine⟨g1,s1,g2,c1,y1,hh,hs,⟨by omega,by omega⟩,y2,hg,?_⟩
       refine(mulN hy1 hy2 (hk.k1 _ qa) okx).mono fun v V11 l11 ⟨r5,hv,h5⟩=>⟨r5,hv,?_⟩
       refine(subN (atN.le l11 hS) h5 (hk.k2 j i _ hjn (by omega) hqS) (hk.k1 _ qa) okx).mono fun v V12 l12 ⟨r6,hv,h6⟩=>⟨r6,hv,?_⟩
       rw[i64w (by omega) (by omega)]
       exact⟨⟨j,i+1,e10,hjn,by omega,by omega,hC'.imp (numC.le (View.le_trans l11 l12)),hx',h6,hk.r1 j i _ _ _ hjn hij hqS qa qX⟩,by omega⟩
     · have hij:i=j:=by simp at hge2; omega
       subst hij
       obtain⟨c1,x,hxx,hxl,hh,hs⟩:=t00.get g3 (t:=t10) (by omega) (z:=B (n-(i+1)) (n-(i+1))) (by rw[ec]; exact i05 (by omega) _)
       obtain⟨y1,ey,hy1⟩:=elN hxx
       subst ey
       have qa:=hBQ (n-(i+1)) (n-(i+1)) (by omega) (by omega)
       refine⟨g1,s1,g2,c1,y1,hh,hs,?_⟩
       refine(divN hS hy1 (hk.k2 i i _ hjn (Nat.le_refl _) hqS) (hk.k1 _ qa) (hdiag _ (by omega))).mono fun v V13 l13 ⟨r7,hv,h7⟩=>⟨r7,0,hv,⟨by omega,by omega⟩,?_,?_⟩
       · rw[hC'.length,n00,ec]
         have e2:(n-(i+1))*5+5=(n-(i+1)+1)*5:=by rw[Nat.add_mul,Nat.one_mul]
         rw[Nat.zero_add,e2]
         exact Nat.mul_le_mul_right _ (by omega)
       · rw[i64w (by omega) (by omega)]
         have hset:=(hC'.imp (numC.le l13)).set0 (i:=n-(i+1)) (by rw[n00]; omega) (lenN r7) (K0t h7)
         rw[z0d]at hset
         refine⟨⟨i+1,by omega,by omega,by rw[ec]; exact hset,fun k h1 h2 => ?_⟩,by omega⟩
         simp only[y06]
         by_cases e:k=n-(i+1)
         · rw[if_pos e]; exact hk.r2 i _ _ hjn hqS qa
         · rw[if_neg e]; exact hk.r3 i _ hjn (hx' k (by omega) h2)
   · have hjn:j=n:=by simp at hlt; omega
     subst hjn
     intro b5 V14 l14 hb5
     rw[Int.toNat_natCast]
     refine⟨⟨some (Addr.mk b5 0 none),j,j⟩,rfl,?_⟩
     exact x08 hb5 (hC.imp (numC.le l14)) (by rw[n00])
def Xb (T:Nat):Nat→Nat
 | 0=>0
 | j+1=>max (Xb T j) (4*(T+j*(T+Xb T j+2))+8)
theorem X0v {T:Nat}:∀ {j n:Nat},j≤n→Xb T j≤Xb T n
 | j, 0, h => by have : j = 0 := by omega
                 subst this; exact Nat.le_refl _
 | j,n+1,h=>by
   by_cases e:j=n+1
   · subst e; exact Nat.le_refl _
   · exact Nat.le_trans (X0v (j:=j) (n:=n) (by omega)) (Nat.le_max_left _ _)
theorem P0u {n T:Nat} (h:T+n*(T+Xb T n+2)≤2^36) (hX:Xb T n≤2^36) :
 W0v n (fun z=>z.sz≤T) (fun j i s=>s.sz≤T+i*(T+Xb T j+2)) (fun j x=>x.sz≤Xb T j):=by
 refine⟨fun j x _ hx=>by rw[Nat.zero_mul]; exact hx,fun j i s a x hj hi hs ha hx => ?_,fun j s a hj hs ha => ?_,fun j x _ hx=>Nat.le_trans hx (Nat.le_max_left _ _),fun x hx => ?_,fun j i s hj hi hs => ?_,fun j x hj hx => ?_⟩
 · have h1:=m01 a x
   have h2:=O08 s (a*x)
   show(s-a*x).sz≤_
   rw[Nat.add_mul,Nat.one_mul]; omega
 · have hd:(s.div a).sz≤4*(T+j*(T+Xb T j+2))+8:=l0k hs (by
     have:0≤j*(T+Xb T j+2):=Nat.zero_le _
     omega)
   exact Nat.le_trans hd (Nat.le_max_right _ _)
 · unfold okN; omega
 · have h1:=X0v (T:=T) (j:=j) (n:=n) (by omega)
   have h2:i*(T+Xb T j+2)≤n*(T+Xb T n+2):=Nat.mul_le_mul (by omega) (by omega)
   unfold okN; omega
 · have h1:=X0v (T:=T) (j:=j) (n:=n) hj
   unfold okN; omega
def qN (S:Nat) (c:Nat) (z:Cq):Prop:=z.sz+2≤(S+2)*6^c
theorem qN_2 {S:Nat} (c:Nat) (x y z u:Cq) (hx:qN S c x) (hy:qN S c y) (hz:qN S c z) (hu:qN S c u):qN S (c+1) (numO.sub x (numO.mul (numO.div y z) u)):=by
 unfold qN at *
 rw[Nat.pow_succ]
 have e:(S+2)*(6^c*6)=((S+2)*6^c)*6:=by rw[Nat.mul_assoc]
 rw[e]
 generalize (S+2)*6^c=T at *
 have h1:(y.div z).sz≤4*(T-2)+8:=l0k (by omega) (by omega)
 have h2:=m01 (y.div z) u
 have h3:=O08 x (y.div z*u)
 show(x-y.div z*u).sz+2≤_
 omega
theorem qN_3 {S:Nat} (c:Nat) (x:Cq) (hx:qN S c x):qN S (c+1) x:=by
 unfold qN at *
 rw[Nat.pow_succ]
 have e:(S+2)*(6^c*6)=((S+2)*6^c)*6:=by rw[Nat.mul_assoc]
 omega
theorem qN_1 {S n:Nat} (h:(S+2)*6^n≤2^36) (c:Nat) (x:Cq) (hc:c≤n) (hx:qN S c x):okN x:=by
 unfold qN at hx
 have:(S+2)*6^c≤(S+2)*6^n:=Nat.mul_le_mul_left _ (Nat.pow_le_pow_right (by omega) hc)
 unfold okN; omega
def augN (n:Nat) (A:Nat→Nat→Cq) (b:Nat→Cq):Nat→Nat→Cq:=W07 A n fun _ i=>b i
theorem k0p {V:View} {p q:Sl} {n:Nat} {A:Nat→Nat→Cq} {b:Nat→Cq} (S:Nat) (h:W05 5 numC V p (matL n n A)) (hb:g0b V q (rowL n b)) (hn:n≤32) (hA:∀i j,i<n→j<n→(A i j).sz≤S) (hB:∀i,i<n→(b i).sz≤S)
 (hS:(S+2)*6^n+n*((S+2)*6^n+Xb ((S+2)*6^n) n+2)≤2^36) (hX:Xb ((S+2)*6^n) n≤2^36) :
 a00 Tryz.prog a09 #[p.v,q.v] V fun v V'=>∃r:Sl,match (elim numO n (n+1) (augN n A b)).2.2 with
  | none=>v = .tuple #[r.v,.int .i64 0]∧g0b V' r (rowL n (y06 numO Cq.zero (elim numO n (n+1) (augN n A b)).1 n n))∧∀i,i<n→(y06 numO Cq.zero (elim numO n (n+1) (augN n A b)).1 n n i).sz≤Xb ((S+2)*6^n) n
  | some _=>v = .tuple #[r.v,.int .i64 6]∧r=⟨none,0,0⟩:=by
 have q0:∀ {z:Cq},z.sz≤S→qN S 0 z:=fun hz=>by unfold qN; rw[Nat.pow_zero]; omega
 have qT:∀ {z:Cq},qN S n z→z.sz≤(S+2)*6^n:=fun hz=>by unfold qN at hz; omega
 have hk:=P0u (T:=(S+2)*6^n) hS hX
 have hk':W0v n (qN S n) (fun j i s=>s.sz≤(S+2)*6^n+i*((S+2)*6^n+Xb ((S+2)*6^n) j+2)) (fun j x=>x.sz≤Xb ((S+2)*6^n) j) :=
  ⟨fun j x hj hx=>hk.r0 j x hj (qT hx),fun j i s a x hj hi hs ha hx=>hk.r1 j i s a x hj hi hs (qT ha) hx,fun j s a hj hs ha=>hk.r2 j s a hj hs (qT ha),hk.r3,fun x hx=>hk.k1 x (qT hx),hk.k2,hk.k3⟩
 have hok:∀c x,c≤n→qN S c x→okN x:=qN_1 (by omega)
 refine(x0f h hb hn (qN S) hok qN_2 qN_3 (fun i j hi hj=>q0 (hA i j hi hj)) (fun i hi=>q0 (hB i hi)) _ _ hk').mono fun v V' _ ⟨r,hr⟩=>⟨r,?_⟩
 unfold augN
 cases e:(elim numO n (n+1) (W07 A n fun _ i=>b i)).2.2 with
 | some c=>rw[e]at hr; exact hr
 | none =>
   rw[e]at hr
   refine⟨hr.1,hr.2,fun i hi => ?_⟩
   have hBQ:∀i j,i<n→j<n+1→qN S n ((elim numO n (n+1) (W07 A n fun _ i=>b i)).1 i j):=j0i numO (qN S) n (n+1) qN_2 qN_3 n 0 _ 0 (by omega) (by omega) fun i j hi hj=>by
    show qN S 0 (if j<n then A i j else b i)
    split
    · exact q0 (hA i j hi (by assumption))
    · exact q0 (hB i hi)
   have key:∀j,j≤n→∀i,n-j≤i→i<n→(y06 numO Cq.zero (elim numO n (n+1) (W07 A n fun _ i=>b i)).1 n j i).sz≤Xb ((S+2)*6^n) j:=by
    intro j
    induction j with
    | zero=>intro _ i h1 h2; omega
    | succ j ih =>
      intro hj i h1 h2
      have ih:=ih (by omega)
      simp only[y06]
      by_cases e:i=n-(j+1)
      · rw[if_pos e]
        refine hk'.r2 j _ _ (by omega) ?_ (hBQ _ _ (by omega) (by omega))
        have bs:∀k,k≤j→(s0j numO (elim numO n (n+1) (W07 A n fun _ i=>b i)).1 (y06 numO Cq.zero (elim numO n (n+1) (W07 A n fun _ i=>b i)).1 n j) (n-(j+1)) n k).sz≤(S+2)*6^n+k*((S+2)*6^n+Xb ((S+2)*6^n) j+2):=by
         intro k
         induction k with
         | zero=>intro _; exact hk'.r0 j _ (by omega) (hBQ _ _ (by omega) (by omega))
         | succ k ihk=>intro hkj; exact hk'.r1 j k _ _ _ (by omega) (by omega) (ihk (by omega)) (hBQ _ _ (by omega) (by omega)) (ih _ (by omega) (by omega))
        exact bs j (Nat.le_refl j)
      · rw[if_neg e]; exact hk'.r3 j _ (by omega) (ih i (by omega) h2)
   exact key n (Nat.le_refl n) i (by omega) hi
def adjQ (A:Nat→Nat→Cq):Nat→Nat→Cq:=fun k i=>(A i k).conj
theorem G0n {V:View} {p:Sl} {n w:Nat} {A:Nat→Nat→Cq} (h:W05 5 numC V p (matL n w A)) (h0:0<n) (hn:n≤32) (hw:w≤32) :
 a00 Tryz.prog f0c #[p.v] V fun v V'=>∃r:Sl,v = .tuple #[r.v,.int .i64 0]∧W05 5 numC V' r (matL w n (adjQ A)):=by
 have hl:p.len=n:=by have:=h.len; rw[D01]at this; exact this
 obtain⟨e1,e2,_⟩:=w0i A hn hw
 have e2:=e2 h0
 refine z0b p V _
  (fun _ x V'=>∃k:Nat,x.t20=k∧k≤w∧x.o17.length=w∧d06 5 numC x.o0 V' x.o17 w (fun i=>if i<k then rowL n (adjQ A i)else [])) (fun _ x _=>w-x.t20.toNat)
  (fun c x V'=>∃k j:Nat,c.t20=k∧c.t7=k∧k<w∧x.t25=j∧j≤n∧x.o17.length=w∧d06 5 numC x.o0 V' x.o17 w (fun i=>if i<k then rowL n (adjQ A i)else if i=k then rowL j (adjQ A k)else [])) (fun _ x _=>n-x.t25.toNat) ?_
 refine(d09 h (by rw[D01]; omega)).mono fun v V1 l1 hv=>⟨_,_,hv,fun hf => ?_,fun _ => ?_⟩
 · rw[e1]at hf; simp at hf
 rw[e2,hl,Int.toNat_natCast]
 refine⟨⟨by omega,by omega,by omega,by omega⟩,⟨0,rfl,by omega,by simp,?_⟩,?_⟩
 · rw[E0w]; exact(p0k V1 w).congr fun i _=>by rw[if_neg (by omega)]
 rintro⟨t20,o0,o17⟩ V3 l3 ⟨k,ek,hk,hol,hR⟩
 dsimp only at ek hol hR ⊢
 subst ek
 refine⟨fun hlt=>⟨⟨k,0,rfl,rfl,by simp at hlt; omega,rfl,by omega,hol,hR.congr fun i hi => ?_⟩,?_⟩,fun hge => ?_⟩
 · by_cases e:i<k
   · rw[if_pos e,if_pos e]
   · rw[if_neg e,if_neg e]
     split<;>rfl
 · rintro⟨t25,o0',o17'⟩ V4 l4 ⟨k',j,ek,_,hkw,ej,hj,hol',hR'⟩
   dsimp only at ek ej hol' hR' ⊢
   obtain rfl:k=k':=by omega
   subst ej
   refine⟨fun hlt2 => ?_,fun hge2 => ?_⟩
   · have hjn:j<n:=by simp at hlt2; omega
     obtain⟨s3,e3,r1,r2,r3,⟨o3,r4,r5,r6⟩,r7⟩:=hR'.row (i:=k) hkw
     rw[if_neg (by omega),if_pos rfl]at r1 r6
     rw[n00]at r1
     obtain⟨g1,s,g2,g3⟩:=(h.le numC.le (View.le_trans l1 (View.le_trans l3 l4))).row (t:=(j:Int)) (by omega) (row:=rowL w (A j)) (by rw[Int.toNat_natCast]; exact t08 hjn A)
     rw[hl]at g1
     obtain⟨d1,x,hx,hxl,hh,hs⟩:=t00.get g3 (t:=(k:Int)) (by omega) (z:=A j k) (by rw[Int.toNat_natCast]; exact i05 hkw _)
     obtain⟨y,rfl,hy⟩:=hx
     refine⟨⟨by omega,by omega⟩,s3,by rw[Int.toNat_natCast,Nat.mul_one,Nat.zero_add]; exact e3,g1,s,.inr g2,d1,y,.inr hh,hs,(F0l hy).mono fun v V5 l5 ⟨r,hv,hr⟩=>⟨r,hv,fun b2 V6 l6 _ hb2 => ?_⟩⟩
     have hnew:V6.has (some (Addr.mk b2 0 none)) r.val.cells.toList:=b08 (cs:=r.val.cells.toList) (j:=0) hb2 (fun i v hv=>by rw[Nat.zero_add]; exact hv) rfl
     have hrc:numC V6 r.val.cells.toList (adjQ A k j):=⟨r,rfl,hr.le l6⟩
     refine⟨o3,_,⟨r2,r3⟩,J0f (View.le_trans l5 l6) r4,r5,.inr hnew,rfl,oneN hrc,by unfold maxLen; omega,by omega,fun _ h2=>r7 1 (by omega) h2,fun a1 c1 m1 ha=>⟨⟨by omega,by omega⟩,by rw[hol',Int.toNat_natCast]; omega,?_⟩⟩
     have:=(hR'.le numC.le (View.le_trans l5 l6)).app (i:=k) hkw e3 (z:=adjQ A k j) rfl hrc (o':=o3) (by rw[if_neg (by omega),if_pos rfl]; exact r6.imp (numC.le (View.le_trans l5 l6))) ha
     rw[i64w (by omega) (by omega)]
     refine⟨⟨k,j+1,rfl,rfl,hkw,by omega,by omega,by simp[hol'],?_⟩,by omega⟩
     have e1:(0+Int.toNat (k:Int)*1)=k:=by omega
     rw[e1]
     refine this.congr fun i hi => ?_
     by_cases e:i=k
     · subst e
       simp only[if_true,Nat.lt_irrefl,if_false]
       exact M0c _ _
     · simp only[if_neg e]
   · have e:j=n:=by simp at hge2; omega
     subst e
     rw[i64w (by omega) (by omega)]
     refine⟨⟨k+1,by omega,by omega,hol',hR'.congr fun i hi => ?_⟩,by omega⟩
     by_cases e:i<k
     · rw[if_pos e,if_pos (by omega)]
     · rw[if_neg e]
       by_cases e2:i=k
       · subst e2; rw[if_pos rfl,if_pos (by omega)]
       · rw[if_neg e2,if_neg (by omega)]
 · have e:k=w:=by simp at hge; omega
   subst e
   refine⟨by decide,fun V7 l7 hpub b5 V8 l8 hb5=>⟨_,rfl,?_⟩⟩
   have hR2:d06 5 numC o0 V3 o17 k (fun i=>rowL n (adjQ A i)):=hR.congr fun i hi=>by rw[if_pos hi]
   exact hR2.knownL numC.le hol (View.le_trans l7 l8) (fun b cs hb=>l8 b cs (hpub b cs hb)) hb5
def nrmA (n:Nat) (A:Nat→Nat→Cq):Nat→Nat→Cq:=fun i j=>sq (fun k=>adjQ A i k*A k j) 0 n
def nrmB (n:Nat) (A:Nat→Nat→Cq) (b:Nat→Cq):Nat→Cq:=fun i=>sq (fun k=>adjQ A i k*b k) 0 n
theorem M0t {f:Nat→Cq} {S:Nat}:∀(j:Nat),(∀k,k<j→(f k).sz≤S)→(sq f 0 j).sz≤1+j*(S+1)
 | 0,_=>by have:=c08; show Cq.zero.sz≤_; omega
 | j+1,h=>by
   have ih:=M0t j fun k hk=>h k (by omega)
   have h1:=C06 (sq f 0 j) (f (0+j))
   have h2:=h (0+j) (by omega)
   rw[sq,Nat.add_mul]; omega
theorem N0t {n:Nat} {A:Nat→Nat→Cq} {S w:Nat} (h:∀i j,i<n→j<w→(A i j).sz≤S) (m:Nat) (hm:m≤n) (i j:Nat) (hi:i<w) (hj:j<w):(sq (fun k=>adjQ A i k*A k j) 0 m).sz≤1+n*(2*S+2):=by
 have:=M0t (f:=fun k=>adjQ A i k*A k j) (S:=2*S+1) m fun k hk=>by
  have h1:=m01 (adjQ A i k) (A k j)
  have h2:=h k i (by omega) hi
  have h3:=h k j (by omega) hj
  have h4:(adjQ A i k).sz=(A k i).sz:=G0d _
  omega
 have h2:m*(2*S+1+1)≤n*(2*S+2):=Nat.mul_le_mul hm (by omega)
 omega
theorem O0t {n:Nat} {A:Nat→Nat→Cq} {b:Nat→Cq} {S w:Nat} (h:∀i j,i<n→j<w→(A i j).sz≤S) (hb:∀i,i<n→(b i).sz≤S) (m:Nat) (hm:m≤n) (i:Nat) (hi:i<w):(sq (fun k=>adjQ A i k*b k) 0 m).sz≤1+n*(2*S+2):=by
 have:=M0t (f:=fun k=>adjQ A i k*b k) (S:=2*S+1) m fun k hk=>by
  have h1:=m01 (adjQ A i k) (b k)
  have h2:=h k i (by omega) hi
  have h3:=hb k (by omega)
  have h4:(adjQ A i k).sz=(A k i).sz:=G0d _
  omega
 have h2:m*(2*S+1+1)≤n*(2*S+2):=Nat.mul_le_mul hm (by omega)
 omega
theorem W0r {V:View} {p q:Sl} {n w:Nat} {A:Nat→Nat→Cq} {b:Nat→Cq} (S:Nat) (h:W05 5 numC V p (matL n w A)) (hb:g0b V q (rowL n b)) (h0:0<n) (hn:n≤32) (hw:w≤32)
 (hA:∀i j,i<n→j<w→(A i j).sz≤S) (hB:∀i,i<n→(b i).sz≤S) (T:Nat) (hT:T=1+n*(2*S+2))
 (hS:(T+2)*6^w+w*((T+2)*6^w+Xb ((T+2)*6^w) w+2)≤2^36) (hX:Xb ((T+2)*6^w) w≤2^36) :
 a00 Tryz.prog s0o #[p.v,q.v] V fun v V'=>∃r:Sl,match (elim numO w (w+1) (augN w (nrmA n A) (nrmB n A b))).2.2 with
  | none=>v = .tuple #[r.v,.int .i64 0]∧g0b V' r (rowL w (y06 numO Cq.zero (elim numO w (w+1) (augN w (nrmA n A) (nrmB n A b))).1 w w)) ∧
      ∀i,i<w→(y06 numO Cq.zero (elim numO w (w+1) (augN w (nrmA n A) (nrmB n A b))).1 w w i).sz≤Xb ((T+2)*6^w) w
  | some _=>v = .tuple #[r.v,.int .i64 6]∧r=⟨none,0,0⟩:=by
 have hl:p.len=n:=by have:=h.len; rw[D01]at this; exact this
 have hql:q.len=n:=by have:=hb.len; rw[n00]at this; exact this
 have hpw:0<6^w:=Nat.pow_pos (by omega)
 have hTb:T+2≤2^36:=by
  have:(T+2)*1≤(T+2)*6^w:=Nat.mul_le_mul_left _ hpw
  omega
 have hSb:2*S+2≤2^36:=by
  have:1*(2*S+2)≤n*(2*S+2):=Nat.mul_le_mul_right _ h0
  omega
 have hcsz:∀i k,i<w→k<n→(adjQ A i k).sz≤S:=fun i k hi hk=>by rw[show(adjQ A i k).sz=(A k i).sz from G0d _]; exact hA k i hk hi
 refine N0m p q V _ (fun _ _ _=>True)
  (fun _ x V'=>∃i:Nat,x.t38=i∧i≤w∧x.o32.length=w∧d06 5 numC x.o0 V' x.o32 w (fun r=>if r<i then rowL w (nrmA n A r)else [])∧x01 5 numC V' x.o35 (rowL w fun r=>if r<i then nrmB n A b r else Cq.zero))
  (fun _ x _=>w-x.t38.toNat)
  (fun c x V'=>∃i j:Nat,c.t38=i∧c.t10=i∧i<w∧x.t45=j∧j≤w∧x.o32.length=w∧d06 5 numC x.o0 V' x.o32 w (fun r=>if r<i then rowL w (nrmA n A r)else if r=i then rowL j (nrmA n A i)else []) ∧
    x01 5 numC V' x.o35 (rowL w fun r=>if r<i then nrmB n A b r else Cq.zero))
  (fun _ x _=>w-x.t45.toNat)
  (fun c x V'=>∃i j k:Nat,c.t38=i∧c.t10=i∧i<w∧c.t45=j∧c.t12=j∧j<w∧x.t50=k∧k≤n∧x.o32.length=w∧d06 5 numC x.o0 V' x.o32 w (fun r=>if r<i then rowL w (nrmA n A r)else if r=i then rowL j (nrmA n A i)else []) ∧
    x01 5 numC V' c.o35 (rowL w fun r=>if r<i then nrmB n A b r else Cq.zero)∧c01 V' x.o13 (sq (fun k=>adjQ A i k*A k j) 0 k))
  (fun _ x _=>n-x.t50.toNat)
  (fun c x V'=>∃i k:Nat,c.t38=i∧c.t10=i∧i<w∧x.t81=k∧k≤n∧c.o32.length=w∧d06 5 numC c.o0 V' c.o32 w (fun r=>if r<i+1 then rowL w (nrmA n A r)else []) ∧
    x01 5 numC V' x.o35 (rowL w fun r=>if r<i then nrmB n A b r else if r=i then sq (fun k=>adjQ A i k*b k) 0 k else Cq.zero))
  (fun _ x _=>n-x.t81.toNat) ?_
 refine(G0n h h0 hn hw).mono fun v V1 l1 ⟨r1,hv,hr1⟩=>⟨r1,0,hv,⟨fun hf=>absurd hf (by simp),fun _=>⟨fun hf => ?_,fun _=>trivial⟩⟩,?_⟩
 · rw[hl,hql]at hf; simp at hf
 have hrl:r1.len=w:=by have:=hr1.len; rw[D01]at this; exact this
 rintro⟨u⟩ V2 l2 -
 rw[hrl,hl]
 have hz:(List.replicate (Int.toNat (w:Int)) [Value.bool false,Value.slice none 0 0,Value.bool false,Value.slice none 0 0,Value.slice none 0 0]).flatten.length=w*5:=by simp
 refine⟨⟨by omega,by omega,by omega,by omega⟩,⟨by omega,by omega,by omega,by omega⟩,⟨0,rfl,by omega,by simp,?_,?_⟩,?_⟩
 · rw[E0w,Int.toNat_natCast]; exact(p0k V2 w).congr fun i _=>by rw[if_neg (by omega)]
 · have e:(rowL w fun r=>if r<0 then nrmB n A b r else Cq.zero)=List.replicate w Cq.zero:=by
     rw[←Y0f]; exact Q02 fun k _=>by rw[if_neg (by omega)]
   rw[e,Int.toNat_natCast]; exact O0p.zeros V2 w
 rintro⟨t38,o0,o32,o35⟩ V5 l5 ⟨i,ei,hi,hol,hR,hC⟩
 dsimp only at ei hol hR hC ⊢
 subst ei
 refine⟨fun hlt => ?_,fun hge => ?_⟩
 · have hiw:i<w:=by simp at hlt; omega
   have L5:=View.le_trans l2 l5
   obtain⟨g1,s,g2,g3⟩:=(hr1.le numC.le L5).row (t:=(i:Int)) (by omega) (row:=rowL n (adjQ A i)) (by rw[Int.toNat_natCast]; exact t08 hiw _)
   rw[hrl]at g1
   have g3l:s.len=n:=by have:=g3.len; rw[n00]at this; exact this
   refine⟨g1,s,.inr g2,⟨i,0,rfl,rfl,hiw,rfl,by omega,hol,hR.congr fun r _ => ?_,hC⟩,?_⟩
   · by_cases e:r<i
     · rw[if_pos e,if_pos e]
     · rw[if_neg e,if_neg e]; split<;>rfl
   rintro⟨t45,o0',o32',o35'⟩ V6 l6 ⟨i',j,ei,_,_,ej,hj,hol',hR',hC'⟩
   dsimp only at ei ej hol' hR' hC' ⊢
   obtain rfl:i=i':=by omega
   subst ej
   refine⟨fun hlt2 => ?_,fun hge2 => ?_⟩
   · have hjw:j<w:=by simp at hlt2; omega
     refine⟨⟨i,j,0,rfl,rfl,hiw,rfl,rfl,hjw,rfl,by omega,hol',hR',hC',c01.zero V6⟩,?_⟩
     rintro⟨t50,o0'',o13,o32''⟩ V7 l7 ⟨i',j',k,ei,_,_,ej,_,_,ek,hk,hol'',hR'',hC'',hs⟩
     dsimp only at ei ej ek hol'' hR'' hC'' hs ⊢
     obtain rfl:i=i':=by omega
     obtain rfl:j=j':=by omega
     subst ek
     have L7:=View.le_trans l6 l7
     refine⟨fun hlt3 => ?_,fun hge3 => ?_⟩
     · have hkn:k<n:=by simp at hlt3; omega
       obtain⟨d1,x,⟨y,rfl,hy⟩,hxl,hh,hsm⟩:=t00.get (t00.le (numC.le L7) L7 g3) (t:=(k:Int)) (by omega) (z:=adjQ A i k) (by rw[Int.toNat_natCast]; exact i05 hkn _)
       obtain⟨f1,s2,f2,f3⟩:=(h.le numC.le (View.le_trans l1 (View.le_trans L5 L7))).row (t:=(k:Int)) (by omega) (row:=rowL w (A k)) (by rw[Int.toNat_natCast]; exact t08 hkn A)
       rw[hl]at f1
       obtain⟨d2,x2,⟨y2,rfl,hy2⟩,hxl2,hh2,hsm2⟩:=t00.get f3 (t:=(j:Int)) (by omega) (z:=A k j) (by rw[Int.toNat_natCast]; exact i05 hjw _)
       have z1:=hcsz i k hiw hkn
       have z2:=hA k j hkn hjw
       have z3:=N0t hA k hk i j hiw hjw
       have z4:=m01 (adjQ A i k) (A k j)
       refine⟨d1,y,.inr hh,hsm,f1,s2,.inr f2,d2,y2,.inr hh2,hsm2,(W04 hy hy2 (by omega) (by omega)).mono fun v V8 l8 ⟨r3,hv,h3⟩=>⟨r3,hv,?_⟩⟩
       refine(z06 (hs.le l8) h3 (by omega) (by omega)).mono fun v V9 l9 ⟨r4,hv,h4⟩=>⟨r4,hv,?_⟩
       rw[i64w (by omega) (by omega)]
       have L9:=View.le_trans l8 l9
       refine⟨⟨i,j,k+1,rfl,rfl,hiw,rfl,rfl,hjw,by omega,by omega,hol'',hR''.le numC.le L9,hC''.imp (numC.le L9),?_⟩,by omega⟩
       rw[sq,Nat.zero_add]; exact h4
     · have e:k=n:=by simp at hge3; omega
       subst e
       obtain⟨s3,e3,r1',r2,r3,⟨o3,r4,r5,r6⟩,r7⟩:=hR''.row (i:=i) hiw
       rw[if_neg (by omega),if_pos rfl]at r1' r6
       rw[n00]at r1'
       refine⟨⟨by omega,by omega⟩,s3,by rw[Int.toNat_natCast,Nat.mul_one,Nat.zero_add]; exact e3,fun b3 V10 l10 _ hb3 => ?_⟩
       have hnew:V10.has (some (Addr.mk b3 0 none)) o13.val.cells.toList:=b08 (cs:=o13.val.cells.toList) (j:=0) hb3 (fun i v hv=>by rw[Nat.zero_add]; exact hv) rfl
       have hrc:numC V10 o13.val.cells.toList (nrmA k A i j):=⟨o13,rfl,hs.le l10⟩
       refine⟨o3,_,⟨r2,r3⟩,J0f l10 r4,r5,.inr hnew,rfl,oneN hrc,by unfold maxLen; omega,by omega,fun _ h2=>r7 1 (by omega) h2,fun a1 c1 m1 ha=>⟨⟨by omega,by omega⟩,by rw[hol'',Int.toNat_natCast]; omega,?_⟩⟩
       have:=(hR''.le numC.le l10).app (i:=i) hiw e3 (z:=nrmA k A i j) rfl hrc (o':=o3) (by rw[if_neg (by omega),if_pos rfl]; exact r6.imp (numC.le l10)) ha
       rw[i64w (by omega) (by omega)]
       refine⟨⟨i,j+1,rfl,rfl,hiw,by omega,by omega,by simp[hol''],?_,hC''.imp (numC.le l10)⟩,by omega⟩
       have e1:(0+Int.toNat (i:Int)*1)=i:=by omega
       rw[e1]
       refine this.congr fun r hr => ?_
       by_cases e:r=i
       · subst e
         simp only[if_true,Nat.lt_irrefl,if_false]
         exact M0c _ _
       · simp only[if_neg e]
   · have ej:j=w:=by simp at hge2; omega
     subst ej
     have hR4:d06 5 numC o0' V6 o32' j (fun r=>if r<i+1 then rowL j (nrmA n A r)else []):=hR'.congr fun r _=>by
      by_cases e:r<i
      · rw[if_pos e,if_pos (by omega)]
      · rw[if_neg e]
        by_cases e2:r=i
        · subst e2; rw[if_pos rfl,if_pos (by omega)]
        · rw[if_neg e2,if_neg (by omega)]
     refine⟨⟨i,0,rfl,rfl,hiw,rfl,by omega,hol',hR4,?_⟩,?_⟩
     · rw[Q02 (g:=fun r=>if r<i then nrmB n A b r else Cq.zero) (fun r _=>by
         by_cases e:r<i
         · rw[if_pos e,if_pos e]
         · rw[if_neg e,if_neg e]; split<;>rfl)]
       exact hC'
     rintro⟨t81,o35''⟩ V11 l11 ⟨i',k,ei,_,_,ek,hk,hol4,hR5,hC5⟩
     dsimp only at ei ek hol4 hR5 hC5 ⊢
     obtain rfl:i=i':=by omega
     subst ek
     have L11:=View.le_trans l6 l11
     refine⟨fun hlt3 => ?_,fun hge3 => ?_⟩
     · have hkn:k<n:=by simp at hlt3; omega
       obtain⟨x0,⟨y0,rfl,hy0⟩,hxl0,hg0⟩:=hC5.at (i:=i) (z:=sq (fun k=>adjQ A i k*b k) 0 k) (by rw[i05 hiw,if_neg (by omega),if_pos rfl])
       obtain⟨d1,x,⟨y,rfl,hy⟩,hxl,hh,hsm⟩:=t00.get (t00.le (numC.le L11) L11 g3) (t:=(k:Int)) (by omega) (z:=adjQ A i k) (by rw[Int.toNat_natCast]; exact i05 hkn _)
       obtain⟨d2,x2,⟨y2,rfl,hy2⟩,hxl2,hh2,hsm2⟩:=t00.get (hb.le (View.le_trans l1 (View.le_trans L5 L11))) (t:=(k:Int)) (by omega) (z:=b k) (by rw[Int.toNat_natCast]; exact i05 hkn _)
       rw[hql]at d2
       have z1:=hcsz i k hiw hkn
       have z2:=hB k hkn
       have z3:=O0t hA hB k hk i hiw
       have z4:=m01 (adjQ A i k) (b k)
       refine⟨⟨by omega,by omega⟩,y0,by rw[Int.toNat_natCast]; exact hg0,d1,y,.inr hh,hsm,by rw[hql]; exact d2,y2,.inr hh2,hsm2,(W04 hy hy2 (by omega) (by omega)).mono fun v V12 l12 ⟨r5,hv,h5⟩=>⟨r5,hv,?_⟩⟩
       refine(z06 (c01.le l12 hy0) h5 (by omega) (by omega)).mono fun v V13 l13 ⟨r6,hv,h6⟩=>⟨r6,hv,⟨by omega,by omega⟩,?_,?_⟩
       · rw[hC5.length,n00,Int.toNat_natCast]
         have e2:i*5+5=(i+1)*5:=by omega
         rw[Nat.zero_add,e2]; exact Nat.mul_le_mul_right _ hiw
       · have L13:=View.le_trans l12 l13
         rw[i64w (by omega) (by omega)]
         refine⟨⟨i,k+1,rfl,rfl,hiw,by omega,by omega,hol4,hR5.le numC.le L13,?_⟩,by omega⟩
         have hset:=(hC5.imp (numC.le L13)).set0 (i:=i) (by rw[n00]; exact hiw) (lenN r6) (K0t h6)
         rw[z0d]at hset
         rw[Int.toNat_natCast]
         rw[Q02 (g:=fun r=>if r<i then nrmB n A b r else if r=i then sq (fun k=>adjQ A i k*b k) 0 (k+1)else Cq.zero) (fun r _=>by
          by_cases e:r=i
          · subst e; rw[if_pos rfl,if_neg (by omega),if_pos rfl,sq,Nat.zero_add]
          · rw[if_neg e,if_neg e,if_neg e])]at hset
         exact hset
     · have e:k=n:=by simp at hge3; omega
       subst e
       rw[i64w (by omega) (by omega)]
       refine⟨⟨i+1,by omega,by omega,hol4,hR5,?_⟩,by omega⟩
       rw[Q02 (g:=fun r=>if r<i then nrmB k A b r else if r=i then sq (fun k=>adjQ A i k*b k) 0 k else Cq.zero) (fun r _=>by
        by_cases e:r<i
        · rw[if_pos e,if_pos (by omega)]
        · rw[if_neg e]
          by_cases e2:r=i
          · subst e2; rw[if_pos rfl,if_pos (by omega)]; rfl
          · rw[if_neg e2,if_neg (by omega)])]
       exact hC5
 · have ei:i=w:=by simp at hge; omega
   subst ei
   refine⟨by decide,fun V14 l14 hpub b6 V15 l15 hb6 b7 V16 l16 hb7 => ?_⟩
   have hR2:d06 5 numC o0 V5 o32 i (fun r=>rowL i (nrmA n A r)):=hR.congr fun r hr=>by rw[if_pos hr]
   have L16:=View.le_trans l14 (View.le_trans l15 l16)
   have hM:W05 5 numC V16 ⟨some ⟨b6,0,none⟩,i,i⟩ (matL i i (nrmA n A)):=hR2.knownL numC.le hol L16 (fun b cs hb=>l16 b cs (l15 b cs (hpub b cs hb))) (l16 _ _ hb6)
   rw[Q02 (g:=nrmB n A b) (fun r hr=>by rw[if_pos hr])]at hC
   have hv':g0b V16 ⟨some ⟨b7,0,none⟩,i,i⟩ (rowL i (nrmB n A b)):=x08 hb7 (hC.imp (numC.le L16)) (by rw[n00])
   rw[Int.toNat_natCast]
   have tA:∀r j,r<i→j<i→(nrmA n A r j).sz≤T:=fun r j h1 h2=>by rw[hT]; exact N0t hA n (Nat.le_refl n) r j h1 h2
   have tB:∀r,r<i→(nrmB n A b r).sz≤T:=fun r h1=>by rw[hT]; exact O0t hA hB n (Nat.le_refl n) r h1
   refine(k0p T hM hv' hw tA tB hS hX).mono fun v V17 l17 ⟨r7,h7⟩ => ?_
   cases e:(elim numO i (i+1) (augN i (nrmA n A) (nrmB n A b))).2.2 with
   | none=>rw[e]at h7; exact⟨r7,0,h7.1,r7,rfl,h7.2⟩
   | some c=>rw[e]at h7; exact⟨r7,6,h7.1,r7,rfl,h7.2⟩
theorem x0i {V:View} (s:I00):a00 Tryz.prog T0g #[s.val] V fun v _=>v=(n04.mk s.x s.y s.z).val:=U0f s V _ rfl
theorem y0f {V:View} (a:n04):a00 Tryz.prog t0o #[a.val] V fun v _=>v=(I00.mk a.e0 a.e1 a.e2).val :=
 O0m a V _ ⟨⟨by omega,by omega⟩,⟨by omega,by omega⟩,⟨by omega,by omega⟩,rfl⟩
theorem l0p {V:View} {s:I00} {p:P3} (h:M05 V s p):a00 Tryz.prog w0a #[s.val] V fun v _=>v = .bool (!p.real):=by
 refine U0h s V _ ((Y05 h.x).mono fun v V1 l1 hv=>⟨_,hv,fun h1 => ?_,fun h1 => ?_⟩)
 · have:decide (p.x.im=0)=false:=by simpa using h1
   unfold P3.real; rw[this]; rfl
 · have e1:decide (p.x.im=0)=true:=by simpa using h1
   refine(Y05 (h.y.le l1)).mono fun v V2 l2 hv=>⟨_,hv,fun h2 => ?_,fun h2 => ?_⟩
   · have:decide (p.y.im=0)=false:=by simpa using h2
     unfold P3.real; rw[e1,this]; rfl
   · have e2:decide (p.y.im=0)=true:=by simpa using h2
     refine(Y05 (h.z.le (View.le_trans l1 l2))).mono fun v V3 l3 hv=>⟨_,hv,?_⟩
     unfold P3.real; rw[e1,e2]; rfl
theorem m0p {V:View} {s:Sl} {ps:List P3} (h:t00 15 f0p V s ps) (hn:ps.length≤2^40) (q:Fn0) :
 a00 Tryz.prog j06 #[s.v,q.val w0a] V fun v _=>∃r:Int,v = .int .i64 r∧(0≤r↔∃p,p∈ps∧p.real=false):=by
 have hl:=h.len
 refine C04 s q V _ (fun _ x _=>∃t:Nat,x.t8=t∧t≤ps.length∧∀p,p∈ps.take t→p.real=true) (fun _ x _=>ps.length-x.t8.toNat) ⟨⟨0,rfl,by omega,by simp⟩,?_⟩
 rintro⟨t⟩ V1 l1 ⟨t',ht,htn,hi⟩
 dsimp only at ht ⊢
 subst ht
 refine⟨fun hlt => ?_,fun hge => ?_⟩
 · simp only[decide_eq_true_eq]at hlt
   have hk:t'<ps.length:=by omega
   obtain⟨g1,x,⟨y,rfl,hy⟩,_,hh,hs⟩:=t00.get (t00.le (f0p.le l1) l1 h) (t:=(t':Int)) (by omega) (z:=ps[t']) (by simp)
   refine⟨g1,y,hh,hs,(l0p hy).mono fun v V2 l2 hv=>⟨_,hv,fun hr=>⟨_,rfl,?_⟩,fun hr => ?_⟩⟩
   · have e:ps[t'].real=false:=by simpa using hr
     exact⟨fun _=>⟨_,List.getElem_mem hk,e⟩,fun _=>by omega⟩
   · have e:ps[t'].real=true:=by simpa using hr
     rw[i64w (by omega) (by omega)]
     refine⟨⟨t'+1,by omega,by omega,fun p hp => ?_⟩,by omega⟩
     rw[List.take_add_one,List.getElem?_eq_getElem hk]at hp
     simp only[Option.toList_some,List.mem_append,List.mem_singleton]at hp
     rcases hp with hp|hp
     · exact hi p hp
     · subst hp; exact e
 · have e:t'=ps.length:=by simp at hge; omega
   subst e
   rw[List.take_length]at hi
   exact⟨-1,rfl,fun h=>absurd h (by omega),fun⟨p,h1,h2⟩=>by rw[hi p h1]at h2; simp at h2⟩
theorem m0k {V:View} {s:Sl} {ps:List P3} (h:t00 15 f0p V s ps) (hn:ps.length≤2^40):a00 Tryz.prog y0g #[s.v] V fun v _=>v = .bool (ps.all P3.real):=by
 refine Y0k s V _ ((b04 s ⟨⟩ V _ ((m0p h hn _).mono fun v V1 l1 ⟨r,hv,hr⟩=>⟨r,hv,?_⟩):a00 Tryz.prog O05 #[s.v,(Fn0.mk).val w0a] V fun v _=>v = .bool (!ps.all P3.real)).mono fun v V1 l1 hv=>⟨_,hv,?_⟩)
 · congr 1
   rw[Bool.eq_iff_iff,decide_eq_true_eq,ge_iff_le,hr]
   simp only[Bool.not_eq_true',List.all_eq_false,Bool.not_eq_true]
 · rw[Bool.not_not]
theorem H0n {V:View} {s:I00} {p:P3} (h:M05 V s p) {b:Nat} (hb:V b=some s.val.cells):a00 Tryz.prog y0g #[(Sl.mk (some (Addr.mk b 0 none)) 1 1).v] V fun v _=>v = .bool p.real:=by
 refine(m0k (ps:=[p]) (t00.of_block (o:=s.val.cells.toList) (o':=[]) (b:=b) (fun _=>by simpa using hb) (x01.one rfl ⟨s,rfl,h⟩) rfl (Nat.le_refl _) (fun _=>rfl)) (by show 1≤2^40; decide)).mono fun v V1 _ hv => ?_
 rw[hv]; simp
theorem Y0b {V:View} {s:o01} {f:F3} (h:K07 V s f):a00 Tryz.prog W0e #[s.val] V fun v _=>v = .bool f.real:=by
 refine u0e s V _ fun b1 V1 l1 _ hb1 => ?_
 have hC:x01 15 f0p V1 (s.o.val.cells.toList++(s.u.val.cells.toList++s.v.val.cells.toList)) [f.o,f.u,f.v] :=
  ⟨_,_,rfl,rfl,⟨s.o,rfl,h.o.le l1⟩,_,_,rfl,rfl,⟨s.u,rfl,h.u.le l1⟩,_,[],by simp,rfl,⟨s.v,rfl,h.v.le l1⟩,rfl⟩
 refine(m0k (ps:=[f.o,f.u,f.v]) (t00.of_block (o:=s.o.val.cells.toList++(s.u.val.cells.toList++s.v.val.cells.toList)) (o':=[]) (b:=b1) (fun _=>by rw[List.append_nil]; exact hb1) hC rfl (Nat.le_refl _) (fun _=>rfl)) (by show 3≤2^40; decide)).mono fun v V2 l2 hv=>⟨_,hv,?_⟩
 simp[F3.real]
theorem k0q {V:View} {a b:I00} {p q:P3} {S T:Nat} (hp:M05 V a p) (hq:M05 V b q) (sp:p.szle S) (sq:q.szle T) (hS:S+T≤2^37) :
 a00 Tryz.prog X0q #[a.val,b.val] V fun v V'=>∃r:NumV,v=r.val∧c01 V' r (dotP p q):=by
 obtain⟨s1,s2,s3⟩:=sp
 obtain⟨t1,t2,t3⟩:=sq
 have a1:=m01 p.x q.x; have a2:=m01 p.y q.y; have a3:=m01 p.z q.z
 have b1:=C06 (p.x*q.x) (p.y*q.y)
 refine S0o a b V _ ((W04 hp.x hq.x (by omega) (by omega)).mono fun v V1 l1 ⟨r1,hv,h1⟩=>⟨r1,hv,?_⟩)
 refine(W04 (hp.y.le l1) (hq.y.le l1) (by omega) (by omega)).mono fun v V2 l2 ⟨r2,hv,h2⟩=>⟨r2,hv,?_⟩
 refine(z06 (h1.le l2) h2 (by omega) (by omega)).mono fun v V3 l3 ⟨r3,hv,h3⟩=>⟨r3,hv,?_⟩
 have L:=View.le_trans l1 (View.le_trans l2 l3)
 refine(W04 (hp.z.le L) (hq.z.le L) (by omega) (by omega)).mono fun v V4 l4 ⟨r4,hv,h4⟩=>⟨r4,hv,?_⟩
 exact(z06 (h3.le l4) h4 (by omega) (by omega)).mono fun v V5 l5 ⟨r5,hv,h5⟩=>⟨r5,hv,r5,rfl,h5⟩
theorem g0g {V:View} {a b:I00} {n:NumV} {p q:P3} {f:Cq} {S T F:Nat} (hp:M05 V a p) (hf:c01 V n f) (hq:M05 V b q) (sp:p.szle S) (sf:f.sz≤F) (sq:q.szle T) (hS:S+T+F≤2^38) :
 a00 Tryz.prog A0m #[a.val,n.val,b.val] V fun v V'=>∃r:I00,v=r.val∧M05 V' r (O0c p f q):=by
 obtain⟨s1,s2,s3⟩:=sp
 obtain⟨t1,t2,t3⟩:=sq
 let ps:List Cq:=[p.x,p.y,p.z]
 let qs:List Cq:=[q.x,q.y,q.z]
 let g:Nat→Nat→Cq:=fun t i=>if i<t then nth ps i+f*nth qs i else nth ps i
 have szp:∀i,i<3→(nth ps i).sz≤S:=fun i hi=>by
  have:i=0∨i=1∨i=2:=by omega
  rcases this with rfl|rfl|rfl
  · exact s1
  · exact s2
  · exact s3
 have szq:∀i,i<3→(nth qs i).sz≤T:=fun i hi=>by
  have:i=0∨i=1∨i=2:=by omega
  rcases this with rfl|rfl|rfl
  · exact t1
  · exact t2
  · exact t3
 refine Z0k a n b V _ (fun _ x V'=>∃t:Nat,x.t14=t∧t≤3∧x01 5 numC V' x.o7 (rowL 3 (g t))) (fun _ x _=>3-x.t14.toNat) ?_
 refine(x0i a).mono fun v V1 l1 hv=>⟨_,hv,(x0i b).mono fun v V2 l2 hv=>⟨_,hv,⟨0,rfl,by omega,?_⟩,?_⟩⟩
 · have L:=View.le_trans l1 l2
   exact U0p (hp.x.le L) (hp.y.le L) (hp.z.le L)
 rintro⟨t14,o6,o7⟩ V3 l3 ⟨t,ht,h3,hC⟩
 dsimp only at ht hC ⊢
 subst ht
 have L3:=View.le_trans l1 (View.le_trans l2 l3)
 refine⟨fun hlt => ?_,fun hge => ?_⟩
 · have hk:t<3:=by simp at hlt; omega
   obtain⟨x,⟨y,rfl,hy⟩,hxl,hg⟩:=hC.at (i:=t) (z:=nth ps t) (by rw[i05 hk]; show some (if t<t then _ else _)=_; rw[if_neg (by omega)])
   have hQ:x01 5 numC V3 _ qs:=U0p (hq.x.le L3) (hq.y.le L3) (hq.z.le L3)
   obtain⟨x2,⟨y2,rfl,hy2⟩,hxl2,hg2⟩:=hQ.at (i:=t) (z:=nth qs t) (g0t (by show t<3; exact hk))
   have z1:=szp t hk
   have z2:=szq t hk
   have z3:=m01 f (nth qs t)
   refine⟨⟨by omega,by omega⟩,y,by rw[Int.toNat_natCast]; exact hg,⟨by omega,by omega⟩,y2,by rw[Int.toNat_natCast]; exact hg2,?_⟩
   refine(W04 (hf.le L3) hy2 (by omega) (by omega)).mono fun v V4 l4 ⟨r3,hv,h3'⟩=>⟨r3,hv,?_⟩
   refine(z06 (c01.le l4 hy) h3' (by omega) (by omega)).mono fun v V5 l5 ⟨r4,hv,h4⟩=>⟨r4,hv,⟨by omega,by omega⟩,?_,?_⟩
   · rw[hC.length,n00,Int.toNat_natCast]; omega
   · rw[i64w (by omega) (by omega)]
     refine⟨⟨t+1,by omega,by omega,?_⟩,by omega⟩
     have hset:=(hC.imp (numC.le (View.le_trans l4 l5))).set0 (i:=t) (by rw[n00]; exact hk) (lenN r4) (K0t h4)
     rw[z0d]at hset
     rw[Int.toNat_natCast]
     rw[Q02 (g:=g (t+1)) (fun k _=>by
      show(if k=t then nth ps t+f*nth qs t else if k<t then nth ps k+f*nth qs k else nth ps k)=if k<t+1 then _ else _
      by_cases e:k=t
      · subst e; rw[if_pos rfl,if_pos (by omega)]
      · rw[if_neg e]
        by_cases e2:k<t
        · rw[if_pos e2,if_pos (by omega)]
        · rw[if_neg e2,if_neg (by omega)])]at hset
     exact hset
 · have e:t=3:=by simp at hge; omega
   subst e
   obtain⟨c,ho,h1,h2,h3⟩:=k0n (show x01 5 numC V3 o7 [(O0c p f q).x,(O0c p f q).y,(O0c p f q).z]from hC)
   refine⟨c,by rw[ho]; rfl,(y0f c).mono fun v V6 l6 hv=>⟨_,hv,_,rfl,h1.le l6,h2.le l6,h3.le l6⟩⟩
theorem P0t {V:View} {a b:I00} {p q:P3} {S T:Nat} (hp:M05 V a p) (hq:M05 V b q) (sp:p.szle S) (sq:q.szle T) (hS:S+T≤2^37) :
 a00 Tryz.prog u0o #[a.val,b.val] V fun v V'=>∃r:I00,v=r.val∧M05 V' r (z0l p q):=by
 refine P0m a b V _ ((Y0c (by omega) (by omega)).mono fun v V1 l1 ⟨r1,hv,h1⟩=>⟨r1,hv,?_⟩)
 exact(g0g (hp.le l1) h1 (hq.le l1) sp k0i sq (by omega)).mono fun v V2 l2 ⟨r2,hv,h2⟩=>⟨r2,hv,r2,rfl,h2⟩
theorem l0b {V:View} {n:Int} (h0 : -9223372036854775808≤n) (h1:n≤9223372036854775807):a00 Tryz.prog t0m #[.int .i64 n] V fun v V'=>∃r:NumV,v=r.val∧c01 V' r ⟨(n:Rat),0⟩ :=
 a0l n V _ ((Y0c h0 h1).mono fun v V1 l1 ⟨r1,hv,h1⟩=>⟨r1,hv,r1,rfl,h1⟩)
theorem X0r {V:View} {s:o01} {a b:NumV} {f:F3} {i j:Cq} {S T:Nat} (h:K07 V s f) (hi:c01 V a i) (hj:c01 V b j) (sf:f.szle S) (si:i.sz≤T) (sj:j.sz≤T) (hS:3*S+2*T≤2^37) :
 a00 Tryz.prog X0e #[s.val,a.val,b.val] V fun v V'=>∃r:I00,v=r.val∧M05 V' r (g0k f i j):=by
 refine w0e s a b V _ ((g0g h.o hi h.u sf.o si sf.u (by omega)).mono fun v V1 l1 ⟨r1,hv,h1⟩=>⟨r1,hv,?_⟩)
 exact(g0g h1 (hj.le l1) (h.v.le l1) (P0c sf.o sf.u si) sj sf.v (by omega)).mono fun v V2 l2 ⟨r2,hv,h2⟩=>⟨r2,hv,r2,rfl,h2⟩
theorem Q0t {V:View} {s:o01} {f:F3} {S:Nat} (h:K07 V s f) (sf:f.szle S) (hS:S≤2^36) :
 a00 Tryz.prog o0o #[s.val] V fun v V'=>∃r:NumV,v = .tuple #[r.val,.int .i64 (if f.real=true then 0 else 1)]∧c01 V' r (if f.real=true then dotP f.u f.v else Cq.zero):=by
 refine Q0m s V _ ((Y0b h).mono fun v V1 l1 hv=>⟨_,hv,fun hr => ?_,fun hr => ?_⟩)
 · have e:f.real=false:=by simpa using hr
   rw[e]; exact⟨zN,rfl,c01.zero V1⟩
 · have e:f.real=true:=by simpa using hr
   rw[e]
   exact(k0q (h.u.le l1) (h.v.le l1) sf.u sf.v (by omega)).mono fun v V2 l2 ⟨r2,hv,h2⟩=>⟨r2,hv,r2,rfl,h2⟩
structure Mk where
 i:Int
 j:Int
 p:P3
def Mk.in64 (m:Mk):Prop:=(-9223372036854775808≤m.i∧m.i≤9223372036854775807)∧(-9223372036854775808≤m.j∧m.j≤9223372036854775807)
structure T0w (V:View) (s:u0a) (m:Mk):Prop where
 i:s.i=m.i
 j:s.j=m.j
 p:M05 V s.at_ m.p
def H0l (V:View) (x:List Value) (m:Mk):Prop:=∃s:u0a,x=s.val.cells.toList∧T0w V s m
theorem H0l.le {V V':View} (hle:V.le V') (x:List Value) (m:Mk) (h:H0l V x m):H0l V' x m:=by
 obtain⟨s,e,h1,h2,h3⟩:=h; exact⟨s,e,h1,h2,h3.le hle⟩
def d0d (V:View) (s:Sl) (ms:List Mk):Prop:=t00 17 H0l V s ms
theorem d0d.le {V V':View} (hle:V.le V') {s:Sl} {ms:List Mk} (h:d0d V s ms):d0d V' s ms:=t00.le (H0l.le hle) hle h
def intQ (n:Int):Cq:=⟨(n:Rat),0⟩
theorem Z05 {n:Int} (h : -9223372036854775808≤n∧n≤9223372036854775807):(intQ n).sz≤64:=by
 refine(Rep.ofInt n).sz (k:=64) ?_ (by decide) (by decide)
 exact g07 (by omega)
def S0t (p:P3) (a:Nat):Cq:=if a=0 then p.x else if a=1 then p.y else p.z
def mkD:Mk:=⟨0,0,P3.zero⟩
def fitA (ms:List Mk):Nat→Nat→Cq:=fun r k=>if k=0 then intQ 1 else if k=1 then intQ (ms.getD r mkD).i else intQ (ms.getD r mkD).j
def fitB (ms:List Mk) (a:Nat):Nat→Cq:=fun r=>S0t (ms.getD r mkD).p a
def fitX (ms:List Mk) (a:Nat):Nat→Cq:=y06 numO Cq.zero (elim numO 3 4 (augN 3 (nrmA ms.length (fitA ms)) (nrmB ms.length (fitA ms) (fitB ms a)))).1 3 3
def fitF (ms:List Mk):F3:=⟨⟨fitX ms 0 0,fitX ms 1 0,fitX ms 2 0⟩,⟨fitX ms 0 1,fitX ms 1 1,fitX ms 2 1⟩,⟨fitX ms 0 2,fitX ms 1 2,fitX ms 2 2⟩⟩
def f0e (ms:List Mk):Cq:=detD 3 (nrmA ms.length (fitA ms))
def fitE (ms:List Mk):Int:=if ms.length<3∨32<ms.length then 4 else if ms.all (fun m=>m.p.real)=true then(if f0e ms=Cq.zero then 6 else 0)else 1
theorem T0t (ms:List Mk) (a:Nat):detD 3 (augN 3 (nrmA ms.length (fitA ms)) (nrmB ms.length (fitA ms) (fitB ms a)))=f0e ms:=rfl
theorem y0i {n:Nat} (hn:n≤32):(1+n*(2*1100+2)+2)*6^3+3*((1+n*(2*1100+2)+2)*6^3+Xb ((1+n*(2*1100+2)+2)*6^3) 3+2)≤2^36∧Xb ((1+n*(2*1100+2)+2)*6^3) 3≤2^32:=by
 have hT:(1+n*(2*1100+2)+2)*6^3≤15300000:=by omega
 generalize (1+n*(2*1100+2)+2)*6^3=T at *
 have e:Xb T 3≤204*T+408:=by simp only[Xb]; omega
 omega
theorem i0g {ms:List Mk} (h:∀m∈ms,m.in64) (r k:Nat):(fitA ms r k).sz≤64:=by
 have hd:(ms.getD r mkD).in64:=by
  rcases Nat.lt_or_ge r ms.length with g|g
  · have e:ms.getD r mkD=ms[r]:=by simp[List.getD,g]
    rw[e]; exact h _ (List.getElem_mem g)
  · have e:ms.getD r mkD=mkD:=by simp[List.getD,g]
    rw[e]; exact⟨⟨by show(-9223372036854775808:Int)≤0; decide,by show(0:Int)≤9223372036854775807; decide⟩,⟨by show(-9223372036854775808:Int)≤0; decide,by show(0:Int)≤9223372036854775807; decide⟩⟩
 unfold fitA
 split
 · exact Z05 ⟨by decide,by decide⟩
 · split
   · exact Z05 hd.1
   · exact Z05 hd.2
theorem E0e {ms:List Mk} {r:Nat} (h:r<ms.length):ms[r]?=some (ms.getD r mkD):=by simp[List.getD,h]
theorem Y0r {V:View} {s:I00} {p:P3} (h:M05 V s p) {a:Nat} (ha:a<3) :
 ∃y:NumV,List.take 5 (List.drop (a*5) (s.x.val.cells.toList++(s.y.val.cells.toList++s.z.val.cells.toList)))=y.val.cells.toList∧c01 V y (S0t p a):=by
 obtain⟨x,⟨y,rfl,hy⟩,_,hg⟩:=(U0p h.x h.y h.z).at (i:=a) (z:=S0t p a) (by
  have:a=0∨a=1∨a=2:=by omega
  rcases this with rfl|rfl|rfl<;>rfl)
 rw[Nat.zero_add]at hg
 exact⟨y,hg,hy⟩
theorem n0p {p:P3} {S:Nat} (h:p.szle S) (a:Nat):(S0t p a).sz≤S:=by
 unfold S0t
 split
 · exact h.1
 · split
   · exact h.2.1
   · exact h.2.2
theorem j0g {V:View} {o:List Value} {g:Nat→Cq} (h:x01 5 numC V o (rowL 9 g)) (k:Nat) (hk:k<3) :
 ∃a:n04,List.take 15 (List.drop (k*15) o)=a.val.cells.toList∧c01 V a.e0 (g (3*k))∧c01 V a.e1 (g (3*k+1))∧c01 V a.e2 (g (3*k+2)):=by
 have h1:=(h.drop (3*k)).take 3
 have e:List.take 3 (List.drop (3*k) (rowL 9 g))=[g (3*k),g (3*k+1),g (3*k+2)]:=by
  have:k=0∨k=1∨k=2:=by omega
  rcases this with rfl|rfl|rfl<;>rfl
 have e1:3*k*5=k*15:=by omega
 rw[e,e1]at h1
 obtain⟨a,ho,h2,h3,h4⟩:=k0n h1
 exact⟨a,ho,h2,h3,h4⟩
def Z0b (ms:List Mk) (a k:Nat):Nat→Cq:=fun q=>if q%3<a∨(q%3=a∧q / 3<k)then fitX ms (q%3) (q / 3)else Cq.zero
theorem U0t (ms:List Mk) (r:Nat):rowL 3 (fitA ms r)=[intQ 1,intQ (ms.getD r mkD).i,intQ (ms.getD r mkD).j]:=rfl
theorem U0w {V:View} {b:Nat} {a1 a2 a3:NumV} {x y z:Cq} (hb:V b=some (a1.val.cells.toList++(a2.val.cells.toList++a3.val.cells.toList)).toArray) (h1:c01 V a1 x) (h2:c01 V a2 y) (h3:c01 V a3 z) :
 t00 5 numC V ⟨some ⟨b,0,none⟩,3,3⟩ [x,y,z] :=
 t00.of_block (o:=a1.val.cells.toList++(a2.val.cells.toList++a3.val.cells.toList)) (o':=[]) (b:=b) (fun _=>by rw[List.append_nil]; exact hb) (U0p h1 h2 h3) rfl (Nat.le_refl _) (fun _=>rfl)
set_option maxHeartbeats 1000000 in
theorem l0q {V:View} {s:Sl} {ms:List Mk} (h:d0d V s ms) (hi:∀m∈ms,m.in64) (hz:∀m∈ms,m.p.szle 1100) :
 a00 Tryz.prog S0q #[s.v] V fun v V'=>∃r:o01,v = .tuple #[r.val,.int .i64 (fitE ms)]∧K07 V' r (if fitE ms=0 then fitF ms else F3.zero) ∧
  (fitE ms=0→(fitF ms).szle (2^32)):=by
 have hl:s.len=ms.length:=h.len
 let n:=ms.length
 let A:=fitA ms
 have nil:∀(e:Int) (V':View),fitE ms=e→e≠0→∃r:o01,Value.tuple #[(o01.mk ⟨zN,zN,zN⟩ ⟨zN,zN,zN⟩ ⟨zN,zN,zN⟩).val,.int .i64 e]=Value.tuple #[r.val,.int .i64 (fitE ms)] ∧
  K07 V' r (if fitE ms=0 then fitF ms else F3.zero)∧(fitE ms=0→(fitF ms).szle (2^32)):=fun e V' he hne=>by
  rw[he,if_neg hne]; exact⟨_,rfl,K07.zero V',fun h=>absurd h hne⟩
 let rowN:View→List Value→List Cq→Prop:=fun V x row=>∃s:Sl,x=[s.v]∧t00 5 numC V s row
 have rowN_le:∀ {V V':View},V.le V'→∀x row,rowN V x row→rowN V' x row:=fun hle x row ⟨s,e,hs⟩=>⟨s,e,g0b.le hle hs⟩
 refine T0o s V _ (fun _ _ _=>3≤n∧n≤32)
  (fun _ x V'=>∃(t:Nat) (l:List Value),x.t26=t∧t≤n∧L03 1 x.t4l x.t4c x.o4 l∧x.t4l=t∧x01 1 rowN V' l (matL t 3 A)∧∀m∈ms.take t,m.p.real=true) (fun _ x _=>n-x.t26.toNat)
  (fun _ x V'=>∃a:Nat,x.t48=a∧a≤3∧x01 5 numC V' x.o7 (rowL 9 (Z0b ms a 0))∧(0<a→f0e ms≠Cq.zero∧∀b,b<a→∀k,k<3→(fitX ms b k).sz≤2^32)) (fun _ x _=>3-x.t48.toNat)
  (fun c x V'=>∃(a t:Nat) (l:List Value),c.t48=a∧a<3∧x.t53=t∧t≤n∧L03 5 x.t9l x.t9c x.o9 l∧x.t9l=t∧x01 5 numC V' l (rowL t (fitB ms a))∧x01 5 numC V' x.o7 (rowL 9 (Z0b ms a 0))) (fun _ x _=>n-x.t53.toNat)
  (fun c x V'=>∃a k:Nat,c.t48=a∧a<3∧x.t77=k∧k≤3∧x01 5 numC V' x.o7 (rowL 9 (Z0b ms a k))) (fun _ x _=>3-x.t77.toNat) ?_
 rw[hl]
 refine⟨⟨fun h3=>nil 4 V ?_ (by decide),fun h3=>⟨fun h4=>nil 4 V ?_ (by decide),fun h4 => ?_⟩⟩,?_⟩
 · unfold fitE; rw[if_pos (.inl (by simp at h3; omega))]
 · unfold fitE; rw[if_pos (.inr (by simp at h4; omega))]
 · exact⟨by simp at h3; omega,by simp at h4; omega⟩
 rintro⟨o2⟩ V1 l1 ⟨hn3,hn32⟩
 have hn3:3≤ms.length:=hn3
 have hn32:ms.length≤32:=hn32
 refine⟨⟨0,[],rfl,by omega,L03.nil,rfl,rfl,by simp⟩,?_⟩
 rintro⟨t4l,t4c,t26,o2',o4⟩ V2 l2 ⟨t,l,et,ht,hL,e4,hC,hreal⟩
 dsimp only at et hL e4 hC ⊢
 subst et; subst e4
 have L2:=View.le_trans l1 l2
 refine⟨fun hlt => ?_,fun hge => ?_⟩
 · have hk:t4l<ms.length:=by simp at hlt; omega
   obtain⟨g1,x,⟨m,rfl,hm⟩,_,hh,hs⟩:=t00.get (h.le L2) (t:=(t4l:Int)) (by omega) (z:=ms.getD t4l mkD) (by rw[Int.toNat_natCast]; exact E0e hk)
   rw[hl]at g1
   have hmem:ms.getD t4l mkD∈ms:=List.mem_of_getElem? (E0e hk)
   obtain⟨i1,i2⟩:=hi _ hmem
   refine⟨g1,m,hh,hs,fun b1 V3 l3 _ hb1=>(H0n (hm.p.le l3) hb1).mono fun v V4 l4 hv=>⟨_,hv,fun hr=>nil 1 V4 ?_ (by decide),fun hr => ?_⟩⟩
   · have e:(ms.getD t4l mkD).p.real=false:=by simpa using hr
     unfold fitE
     rw[if_neg (by omega),if_neg (by
      intro hall
      rw[List.all_eq_true]at hall
      rw[hall _ hmem]at e; simp at e)]
   · have hre:(ms.getD t4l mkD).p.real=true:=by simpa using hr
     refine(l0b (by omega) (by omega)).mono fun v V5 l5 ⟨r2,hv,h2⟩=>⟨r2,hv,?_⟩
     rw[hm.i,hm.j]
     refine(l0b i1.1 i1.2).mono fun v V6 l6 ⟨r3,hv,h3⟩=>⟨r3,hv,?_⟩
     refine(l0b i2.1 i2.2).mono fun v V7 l7 ⟨r4,hv,h4⟩=>⟨r4,hv,fun b2 V8 l8 _ hb2 b3 V9 l9 _ hb3 => ?_⟩
     have M9:=View.le_trans l8 l9
     have hrow:t00 5 numC V9 ⟨some ⟨b2,0,none⟩,3,3⟩ (rowL 3 (fitA ms t4l)):=by
      rw[U0t]
      exact U0w (l9 _ _ hb2) (h2.le (View.le_trans l6 (View.le_trans l7 M9))) (h3.le (View.le_trans l7 M9)) (h4.le M9)
     have hnew:V9.has (some (Addr.mk b3 0 none)) [Value.slice (some ⟨b2,0,none⟩) 3 3]:=b08 (cs:=[Value.slice (some ⟨b2,0,none⟩) 3 3]) (j:=0) hb3 (fun i v hv=>by rw[Nat.zero_add]; exact hv) rfl
     refine⟨l,_,hL,hnew,rfl,by intro v hv; simp at hv; subst hv; rfl,by unfold maxLen; omega,by omega,fun c1 l3' hl3 => ?_⟩
     rw[i64w (by omega) (by omega)]
     refine⟨⟨t4l+1,_,by omega,hk,hl3,rfl,?_,fun q hq => ?_⟩,by omega⟩
     · have e:matL (t4l+1) 3 A=matL t4l 3 A++[rowL 3 (A t4l)]:=by simp[matL,List.range_succ]
       rw[e]
       exact(hC.imp (rowN_le (View.le_trans l3 (View.le_trans l4 (View.le_trans l5 (View.le_trans l6 (View.le_trans l7 M9))))))).append (x01.one rfl ⟨_,rfl,hrow⟩)
     · rw[List.take_add_one,E0e hk]at hq
       simp only[Option.toList_some,List.mem_append,List.mem_singleton]at hq
       rcases hq with hq|hq
       · exact hreal q hq
       · subst hq; exact hre
 have et:t4l=ms.length:=by simp at hge; have:t4l≤ms.length:=ht; omega
 subst et
 rw[List.take_length]at hreal
 have hall:ms.all (fun m=>m.p.real)=true:=List.all_eq_true.2 hreal
 intro b4 V10 l10 hb4
 have hM:W05 5 numC V10 ⟨lstA b4 t4c,ms.length,t4c⟩ (matL ms.length 3 A):=z09 hL hb4 (hC.imp (rowN_le l10)) (by rw[D01])
 have L10:=View.le_trans L2 l10
 refine⟨⟨0,rfl,by omega,?_,fun h=>absurd h (by omega)⟩,?_⟩
 · have e:rowL 9 (Z0b ms 0 0)=List.replicate 9 Cq.zero:=by
     rw[←Y0f]; exact Q02 fun q _=>by unfold Z0b; rw[if_neg (by omega)]
   rw[e]; exact O0p.zeros V10 9
 rintro⟨t48,o2'',o7⟩ V11 l11 ⟨a,ea,ha,hP,hdone⟩
 dsimp only at ea hP ⊢
 subst ea
 have L11:=View.le_trans L10 l11
 refine⟨fun hlt=>⟨⟨a,0,[],rfl,by simp at hlt; omega,rfl,by omega,L03.nil,rfl,rfl,hP⟩,?_⟩,fun hge => ?_⟩
 · have ha3:a<3:=by simp at hlt; omega
   rintro⟨t9l,t9c,t53,o2x,o7',o9⟩ V12 l12 ⟨a',t,lb,ea,_,et,ht,hLb,e9,hCb,hP'⟩
   dsimp only at ea et hLb e9 hCb hP' ⊢
   obtain rfl:a=a':=by omega
   subst et; subst e9
   have L12:=View.le_trans L11 l12
   refine⟨fun hlt2 => ?_,fun hge2 => ?_⟩
   · have hk:t9l<ms.length:=by simp at hlt2; omega
     obtain⟨g1,x,⟨m,rfl,hm⟩,_,hh,hs⟩:=t00.get (h.le L12) (t:=(t9l:Int)) (by omega) (z:=ms.getD t9l mkD) (by rw[Int.toNat_natCast]; exact E0e hk)
     rw[hl]at g1
     refine⟨g1,m,hh,hs,(x0i m.at_).mono fun v V13 l13 hv=>⟨_,hv,⟨by omega,by omega⟩,?_⟩⟩
     obtain⟨y,hy1,hy2⟩:=Y0r (hm.p.le l13) ha3
     refine⟨y,by rw[Int.toNat_natCast]; exact hy1,fun b5 V14 l14 _ hb5 => ?_⟩
     have hnew:V14.has (some (Addr.mk b5 0 none)) y.val.cells.toList:=b08 (cs:=y.val.cells.toList) (j:=0) hb5 (fun i v hv=>by rw[Nat.zero_add]; exact hv) rfl
     have hyc:numC V14 y.val.cells.toList (fitB ms a t9l):=⟨y,rfl,hy2.le l14⟩
     refine⟨lb,_,hLb,hnew,rfl,oneN hyc,by unfold maxLen; omega,by omega,fun c2 l6 hl6 => ?_⟩
     rw[i64w (by omega) (by omega)]
     have M14:=View.le_trans l13 l14
     refine⟨⟨a,t9l+1,_,rfl,ha3,by omega,hk,hl6,rfl,?_,hP'.imp (numC.le M14)⟩,by omega⟩
     rw[←M0c]
     exact(hCb.imp (numC.le M14)).append (x01.one rfl hyc)
   · have et:t9l=ms.length:=by simp at hge2; have:t9l≤ms.length:=ht; omega
     subst et
     intro b6 V15 l15 hb6
     have hb:g0b V15 ⟨lstA b6 t9c,ms.length,t9c⟩ (rowL ms.length (fitB ms a)):=z09 hLb hb6 (hCb.imp (numC.le l15)) (by rw[n00])
     have M15:=View.le_trans l11 (View.le_trans l12 l15)
     have sB:∀r,r<ms.length→(fitB ms a r).sz≤1100:=fun r hr=>n0p (hz _ (List.mem_of_getElem? (E0e hr))) a
     refine(W0r 1100 (hM.le numC.le M15) hb (by omega) hn32 (by omega) (fun r k _ _=>Nat.le_trans (i0g hi r k) (by omega)) sB _ rfl (y0i hn32).1 (Nat.le_trans (y0i hn32).2 (by decide))).mono fun v V16 l16 ⟨r6,h6⟩ => ?_
     have hiff:=X0p (n:=3) (w:=4) (by omega) (by omega) (by omega) (augN 3 (nrmA ms.length (fitA ms)) (nrmB ms.length (fitA ms) (fitB ms a)))
     rw[T0t]at hiff
     cases hst:(elim numO 3 4 (augN 3 (nrmA ms.length (fitA ms)) (nrmB ms.length (fitA ms) (fitB ms a)))).2.2 with
     | some c =>
       rw[show(elim numO 3 (3+1) (augN 3 (nrmA ms.length A) (nrmB ms.length A (fitB ms a)))).2.2=some c from hst]at h6
       obtain⟨hv,hr⟩:=h6
       have hd:f0e ms=Cq.zero:=Classical.byContradiction fun g=>by rw[hiff.2 g]at hst; simp at hst
       refine⟨r6,6,hv,fun _=>nil 6 V16 ?_ (by decide),fun hf=>by simp at hf⟩
       unfold fitE
       rw[if_neg (by omega),if_pos hall,if_pos hd]
     | none =>
       rw[show(elim numO 3 (3+1) (augN 3 (nrmA ms.length A) (nrmB ms.length A (fitB ms a)))).2.2=none from hst]at h6
       obtain⟨hv,hx,hsz⟩:=h6
       have hx:g0b V16 r6 (rowL 3 (fitX ms a)):=hx
       have hxl:r6.len=3:=by have:=hx.len; rw[n00]at this; exact this
       have hd:f0e ms≠Cq.zero:=hiff.1 hst
       refine⟨r6,0,hv,fun hf=>by simp at hf,fun _=>⟨⟨a,0,rfl,ha3,rfl,by omega,hP'.imp (numC.le (View.le_trans l15 l16))⟩,?_⟩⟩
       rintro⟨t77,o7''⟩ V17 l17 ⟨a',k,ea,_,ek,hk3,hP3⟩
       dsimp only at ea ek hP3 ⊢
       obtain rfl:a=a':=by omega
       subst ek
       rw[hxl]
       refine⟨fun hlt3 => ?_,fun hge3 => ?_⟩
       · have hk:k<3:=by simp at hlt3; omega
         obtain⟨d1,y,hh,hs,hy⟩:=(hx.le l17).get (t:=(k:Int)) (by omega) (by rw[n00,Int.toNat_natCast]; exact hk)
         rw[hxl]at d1
         have hyk:c01 V17 y (fitX ms a k):=by
          have e:nth (rowL 3 (fitX ms a)) (Int.toNat (k:Int))=fitX ms a k:=by rw[Int.toNat_natCast]; exact K0v hk _
          rw[e]at hy; exact hy
         refine⟨d1,y,hh,hs,⟨by omega,by omega⟩,⟨by omega,by omega⟩,?_,?_⟩
         · rw[hP3.length,n00,Int.toNat_natCast,Int.toNat_natCast]; omega
         · rw[i64w (by omega) (by omega)]
           refine⟨⟨a,k+1,rfl,ha3,by omega,by omega,?_⟩,by omega⟩
           have hset:=hP3.set0 (i:=3*k+a) (by rw[n00]; omega) (lenN y) (K0t hyk)
           rw[z0d]at hset
           rw[Int.toNat_natCast,Int.toNat_natCast]
           have e1:0+(3*k+a)*5=0+k*15+a*5:=by omega
           rw[e1]at hset
           rw[Q02 (g:=Z0b ms a (k+1)) (fun q hq=>by
            unfold Z0b
            by_cases e:q=3*k+a
            · subst e
              have m1:(3*k+a)%3=a:=by omega
              have m2:(3*k+a) / 3=k:=by omega
              rw[if_pos rfl,m1,m2,if_pos (by omega)]
            · rw[if_neg e]
              by_cases c:q%3<a∨(q%3=a∧q / 3<k)
              · rw[if_pos c,if_pos (by omega)]
              · rw[if_neg c,if_neg (by omega)])]at hset
           exact hset
       · have ek:k=3:=by simp at hge3; omega
         subst ek
         rw[i64w (by omega) (by omega)]
         refine⟨⟨a+1,by omega,by omega,?_,fun _=>⟨hd,fun b hb k hk => ?_⟩⟩,by omega⟩
         · rw[Q02 (g:=Z0b ms a 3) (fun q hq=>by
             unfold Z0b
             by_cases c:q%3<a+1∨(q%3=a+1∧q / 3<0)
             · rw[if_pos c,if_pos (by omega)]
             · rw[if_neg c,if_neg (by omega)])]
           exact hP3
         · by_cases e:b<a
           · exact(hdone (by omega)).2 b e k hk
           · have:b=a:=by omega
             subst this
             have:=hsz k hk
             exact Nat.le_trans this (y0i hn32).2
 · have ea:a=3:=by simp at hge; omega
   subst ea
   obtain⟨hd,hsz⟩:=hdone (by omega)
   have hE:fitE ms=0:=by unfold fitE; rw[if_neg (by omega),if_pos hall,if_neg hd]
   have hg:∀k c,k<3→c<3→Z0b ms 3 0 (3*k+c)=fitX ms c k:=fun k c hk hc=>by
    unfold Z0b
    have m1:(3*k+c)%3=c:=by omega
    have m2:(3*k+c) / 3=k:=by omega
    rw[m1,m2,if_pos (by omega)]
   obtain⟨a0,o0,p00,p01,p02⟩:=j0g hP 0 (by omega)
   obtain⟨a1,o1,p10,p11,p12⟩:=j0g hP 1 (by omega)
   obtain⟨a2,o2,p20,p21,p22⟩:=j0g hP 2 (by omega)
   refine⟨⟨by omega,by omega⟩,a0,o0,⟨by omega,by omega⟩,a1,o1,⟨by omega,by omega⟩,a2,o2,?_⟩
   refine(y0f a0).mono fun v V18 l18 hv=>⟨_,hv,(y0f a1).mono fun v V19 l19 hv=>⟨_,hv,(y0f a2).mono fun v V20 l20 hv=>⟨_,hv,⟨⟨a0.e0,a0.e1,a0.e2⟩,⟨a1.e0,a1.e1,a1.e2⟩,⟨a2.e0,a2.e1,a2.e2⟩⟩,?_,?_,?_⟩⟩⟩
   · rw[hE]
   · rw[hE,if_pos rfl]
     have K:=View.le_trans l18 (View.le_trans l19 l20)
     have g:=fun k c hk hc (x:NumV) (hx:c01 V11 x (Z0b ms 3 0 (3*k+c)))=>(show c01 V20 x (fitX ms c k)from by rw[hg k c hk hc]at hx; exact hx.le K)
     exact⟨⟨g 0 0 (by omega) (by omega) _ p00,g 0 1 (by omega) (by omega) _ p01,g 0 2 (by omega) (by omega) _ p02⟩,⟨g 1 0 (by omega) (by omega) _ p10,g 1 1 (by omega) (by omega) _ p11,g 1 2 (by omega) (by omega) _ p12⟩,
      ⟨g 2 0 (by omega) (by omega) _ p20,g 2 1 (by omega) (by omega) _ p21,g 2 2 (by omega) (by omega) _ p22⟩⟩
   · intro _
     exact⟨⟨hsz 0 (by omega) 0 (by omega),hsz 1 (by omega) 0 (by omega),hsz 2 (by omega) 0 (by omega)⟩,⟨hsz 0 (by omega) 1 (by omega),hsz 1 (by omega) 1 (by omega),hsz 2 (by omega) 1 (by omega)⟩,⟨hsz 0 (by omega) 2 (by omega),hsz 1 (by omega) 2 (by omega),hsz 2 (by omega) 2 (by omega)⟩⟩
theorem F0e {V:View} {n c:Nat} {w:List Value} {f:Nat→Int} (h1:1≤n) (hn:n≤w.length) (hw:n≤2^60) (hf:∀p,p<n→w[p]?=some (.int .u8 (f p))) :
 I0f Tryz.prog U08 (fun b=>(Value.slice (some ⟨b,0,none⟩) n c::[]:List Value)) T_u8 w V fun v l _=>v = .tuple #[]∧l.length=w.length∧l.take n=(w.take n).reverse:=by
 refine G08 0 n c w V _ (fun _ x _=>∃i j:Nat,x.t2=(i:Int)∧x.t3=(j:Int)∧j+i=n-1∧(i≤j+1)∧x.o0=revI w n i) (fun _ x _=>(x.t3-x.t2+2).toNat) ⟨⟨0,n-1,rfl,?_,by omega,by omega,(n0n w n).symm⟩,?_⟩
 · show IntKind.i64.wrap ((n:Int)-1)=_
   rw[i64w (by omega) (by omega)]; omega
 rintro⟨t,u,o⟩ V1 l1 ⟨i,j,rfl,rfl,hij,hi,rfl⟩
 have gd:∀p,p<n→w.getD p undef = .int .u8 (f p):=fun p hp=>by simp[List.getD,hf p hp]
 dsimp only
 refine⟨fun hlt => ?_,fun hge => ?_⟩
 · simp only[decide_eq_true_eq]at hlt
   have hij':i<j:=by omega
   rw[i64w (n:=(i:Int)+1) (by omega) (by omega),i64w (n:=(j:Int)-1) (by omega) (by omega)]
   simp only[Int.toNat_natCast,Nat.mul_one,Nat.zero_add]
   refine⟨⟨by omega,by omega⟩,f j,?_,⟨by omega,by omega⟩,f i,?_,⟨by omega,by omega⟩,by rw[D05]; omega,⟨by omega,by omega⟩,by rw[List.length_set,D05]; omega,⟨i+1,j-1,by omega,by omega,by omega,by omega,?_⟩,by omega⟩
   · rw[s0h (by omega) (by omega) (by omega),gd j (by omega)]
   · rw[s0h (by omega) (by omega) (by omega),gd i (by omega)]
   · have:=o0n (o:=w) hn hij hij'
     rw[gd i (by omega),gd j (by omega)]at this
     exact this
 · simp only[decide_eq_false_iff_not]at hge
   exact⟨rfl,D05 _ _ _,a0q hn (by omega)⟩
theorem m0q {l:List Nat} {p:Nat} (h:p<l.length):(digC l)[p]?=some (.int .u8 ((48+l.getD p 0:Nat):Int)):=by simp[digC,h]
theorem W0w {r:Nat}:IntKind.u8.wrap (IntKind.u32.wrap (48+(Int.tmod (r:Int) 10)))=((48+r%10:Nat):Int):=by
 rw[show Int.tmod (r:Int) 10=((r%10:Nat):Int)from(Int.ofNat_tmod r 10).symm,u32w (by omega) (by omega),IntWalk.u8_in _ ⟨by omega,by omega⟩]; omega
theorem u32q {r:Nat} (h:r<4294967296):IntKind.u32.wrap (Int.tdiv (r:Int) 10)=((r / 10:Nat):Int):=by
 rw[show Int.tdiv (r:Int) 10=((r / 10:Nat):Int)from(Int.ofNat_tdiv r 10).symm,u32w (by omega) (by omega)]
theorem oneC (n:Int):∀v∈[Value.int .u8 n],Value.oneCell' v=true:=by intro v hv; simp at hv; subst hv; rfl
theorem S09 {V:View} {s:Sl} {N:Nat} (h:x00 V s N) (hb:bl N≤2^42) :
 a00 Tryz.prog C0m #[s.v] V fun v _=>v = .string (decS N):=by
 have hz:=h.len_zero
 have hlow:=d0g N
 refine b0l s V _
  (fun _ x V'=>∃(X:Nat) (dl:List Nat),x00 V' x.t0 X∧X≤N∧L03 1 x.t3l x.t3c x.o3 (digC dl)∧x.t3l=dl.length∧low N=dl++low X) (fun _ x V'=>c0e V' x.t0)
  (fun c x V'=>∃(q r k:Nat) (dl:List Nat),x00 V' c.t0 q∧q≤N∧x.t4=(r:Int)∧x.t5=(k:Int)∧k≤9∧r<10^(9-k)∧L03 1 x.t3l x.t3c x.o3 (digC dl)∧x.t3l=dl.length∧low N=dl++low (q*10^(9-k)+r)) (fun _ x _=>(9-x.t5).toNat)
  ⟨fun h0 => ?_,fun h0=>⟨⟨N,[],h,Nat.le_refl _,L03.nil,rfl,rfl⟩,?_⟩⟩
 · have:s.len=0:=by have:(s.len:Int)=0:=(by simpa using h0); omega
   rw[hz.1 this,m0n]
 have hN0:N≠0:=by
  intro e; rw[←hz]at e; rw[e]at h0; simp at h0
 rintro⟨t0,n,c,o⟩ V1 l1 ⟨X,dl,hX,hXN,hlo,hn,hval⟩
 dsimp only at hX hlo hn ⊢
 have hXz:=hX.len_zero
 refine⟨fun hp => ?_,fun hp => ?_⟩
 · simp only[gt_iff_lt,decide_eq_true_eq]at hp
   have hX0:X≠0:=fun e=>by rw[←hXz]at e; omega
   have hbX:bl X≤2^42:=Nat.le_trans (L0c hXN) hb
   refine(e0e (d:=1000000000) hX (g0i (by omega)) (by omega) (by omega)).mono fun v V2 l2 ⟨r1,hv,h1⟩=>⟨r1,_,hv,⟨X / 1000000000,X%1000000000,0,dl,h1,Nat.le_trans (Nat.div_le_self _ _) hXN,rfl,rfl,by omega,?_,hlo,hn,?_⟩,?_⟩
   · exact Nat.mod_lt _ (by omega)
   · have:X / 1000000000*10^(9-0)+X%1000000000=X:=by
       rw[show(10:Nat)^(9-0)=1000000000 by decide]; omega
     rw[this]; exact hval
   rintro⟨n3,c3,r3,k3,o3⟩ V3 l3 ⟨q,r,k,dl3,hq,hqN,rfl,rfl,hk,hr,hlo3,hn3,hval3⟩
   dsimp only at hq hlo3 hn3 ⊢
   have hqe:=hq.inj (h1.le l3)
   have hlt9:r<1000000000:=Nat.lt_of_lt_of_le hr (by
    have:(10:Nat)^(9-k)≤10^9:=Nat.pow_le_pow_right (by omega) (by omega)
    exact Nat.le_trans this (by decide))
   have hl3:dl3.length≤2^42:=by
    have:=congrArg List.length hval3
    rw[List.length_append]at this; omega
   have hqz:=hq.len_zero
   have step:(q≠0∨r≠0)→k<9→∀(b1:Nat) (V4:View),V3.le V4→View.Fin V4→V4 b1=some #[.int .u8 (IntKind.u8.wrap (IntKind.u32.wrap (48+(Int.tmod (r:Int) 10))))] →
    ∃(l1:List Value) (l2:List Value),L03 1 n3 c3 o3 l1∧View.has V4 (some (Addr.mk b1 0 none)) l2∧List.length l2=1*1∧(∀v∈l2,Value.oneCell' v=true)∧n3+1≤maxLen∧(n3+1)*1≤140737488355328 ∧
    ∀(c1:Nat) (l3:List Value),L03 1 (n3+1) c1 l3 (l1++l2) →
    (∃(q' r' k':Nat) (dl:List Nat),x00 V4 r1 q'∧q'≤N∧(IntKind.u32.wrap (Int.tdiv (r:Int) 10))=(r':Int)∧(IntKind.i64.wrap ((k:Int)+1))=(k':Int)∧k'≤9∧r'<10^(9-k')∧L03 1 (n3+1) c1 l3 (digC dl)∧n3+1=dl.length∧low N=dl++low (q'*10^(9-k')+r'))∧(9-(IntKind.i64.wrap ((k:Int)+1))).toNat<(9-(k:Int)).toNat:=by
    intro hne hk9 b1 V4 l4 _ hb1
    rw[W0w]at hb1
    have hrr:r / 10<10^(9-(k+1)):=by
     have:10^(9-k)=10^(9-(k+1))*10:=by rw[←Nat.pow_succ]; congr 1; omega
     omega
    have hst:=Y0p (q:=q) (r:=r) (k:=9-(k+1)) hne
    rw[show 9-(k+1)+1=9-k by omega]at hst
    refine⟨digC dl3,[.int .u8 ((48+r%10:Nat):Int)],hlo3,a0d hb1,rfl,oneC _,Nat.le_trans (show n3+1≤2^43 by omega) (by decide),by omega,fun c1 l3' hl3'=>⟨⟨q,r / 10,k+1,dl3++[r%10],hq.le l4,hqN,u32q (by omega),by rw[i64w (by omega) (by omega)]; omega,hk9,hrr,?_,by simp[hn3],?_⟩,by rw[i64w (by omega) (by omega)]; omega⟩⟩
    · rw[←o0i]; exact hl3'
    · rw[hval3,hst]; simp
   have stop:(k=9∨q=0∧r=0)→(∃(X:Nat) (dl:List Nat),x00 V3 r1 X∧X≤N∧L03 1 n3 c3 o3 (digC dl)∧n3=dl.length∧low N=dl++low X)∧c0e V3 r1<c0e V1 t0:=by
    intro hs
    refine⟨⟨q,dl3,hq,hqN,hlo3,hn3,?_⟩,?_⟩
    · rcases hs with rfl|⟨rfl,rfl⟩
      · have:r=0:=by simp at hr; omega
        subst this
        simpa using hval3
      · simpa using hval3
    · rw[J08 hq,J08 hX,hqe]
      omega
   refine⟨fun hk9=>⟨fun hq1=>⟨fun _=>step (.inl ?_) (by have:(k:Int)<9:=(by simpa using hk9); omega),fun h=>absurd h (by simp)⟩,fun hq1=>⟨fun hr1=>step (.inr ?_) (by have:(k:Int)<9:=(by simpa using hk9); omega),fun hr1=>stop (.inr ⟨?_,?_⟩)⟩⟩,fun hk9=>⟨fun h=>absurd h (by simp),fun _=>stop (.inl ?_)⟩⟩
   · simp only[gt_iff_lt,decide_eq_true_eq]at hq1
     intro e; rw[←hqz]at e; omega
   · simp only[gt_iff_lt,decide_eq_true_eq]at hr1; omega
   · simp only[gt_iff_lt,decide_eq_false_iff_not]at hq1; exact hqz.1 (by omega)
   · simp only[gt_iff_lt,decide_eq_false_iff_not]at hr1; omega
   · simp only[decide_eq_false_iff_not]at hk9; omega
 · simp only[gt_iff_lt,decide_eq_false_iff_not]at hp
   have hX0:X=0:=hXz.1 (by omega)
   rw[hX0,p0h,List.append_nil]at hval
   subst hval
   have hd0:low N≠[]:=by rw[n0i hN0]; simp
   have hl0:0<(low N).length:=List.length_pos_iff.2 hd0
   have hle:=hlo.le
   have htk:=hlo.take
   have hol:=hlo.len
   rw[Nat.mul_one]at htk hol
   have htl:n≤o.length:=by omega
   have g:∀p,p<n→o[p]?=some (.int .u8 (((48+(low N).getD p 0:Nat):Nat):Int)):=by
    intro p hp'
    rw[←List.getElem?_take_of_lt hp',htk]
    exact m0q (by omega)
   refine⟨⟨by intro e; rw[e]at htl; simp at htl; omega,⟨by omega,trivial⟩,trivial⟩,?_⟩
   refine(F0e (c:=c) (f:=fun p=>((48+(low N).getD p 0:Nat):Int)) (by omega) htl (by omega) g).mono fun v l10 V7 l7 ⟨hv,hl10,ht10⟩=>⟨hv,fun b4 V8 l8 hb4 => ?_⟩
   refine⟨decL N,?_,by rw[I0b hN0]; omega,rfl,rfl⟩
   rw[htk,b0q hN0]at ht10
   intro j v hj
   have hjl:j<n:=by
    rcases Nat.lt_or_ge j n with h|h
    · exact h
    · rw[List.getElem?_eq_none (by simp[I0b hN0]; omega)]at hj; simp at hj
   rw[a08 hb4]
   rw[←ht10,List.getElem?_take_of_lt hjl]at hj
   simpa using hj
def Q05 (a:Int) (d:Nat):Cq:=⟨(a:Rat) / (d:Rat),0⟩
theorem I0n {a:Int} {d:Nat} (h:d≠0):Rep (Q05 a d) a 0 d:=⟨h,rfl,by show(0:Rat)=_; rw[Rat.div_def]; simp⟩
theorem e0v (z:Cq):(⟨z.re,0⟩:Cq)=Q05 z.A z.D:=Cq.ext' z.canon.rep.re rfl
theorem f0v (z:Cq):(⟨z.im,0⟩:Cq)=Q05 z.B z.D:=Cq.ext' z.canon.rep.im rfl
theorem J0n {a:Int} {d:Nat} (h:d≠0):(Q05 a d).A.natAbs=a.natAbs / Nat.gcd a.natAbs d∧(Q05 a d).D=d / Nat.gcd a.natAbs d∧((Q05 a d).A<0↔a<0):=by
 obtain⟨e1,e2,e3⟩:=(I0n (a:=a) h).eqs
 have hg:gcd3 a 0 d=Nat.gcd a.natAbs d:=by simp[gcd3]
 have d1:=K0c a 0 d
 have k1:=F06 d1
 have k2:=O09 d1 (n0h a 0 h)
 rw[e1,e3,k1,hg]
 rw[hg]at k2
 exact⟨rfl,rfl,by simpa using k2⟩
theorem I0l {a:Int} {d:Nat} (h:d≠0):bl (Q05 a d).A.natAbs≤bl a.natAbs∧bl (Q05 a d).D≤bl d:=by
 obtain⟨e1,e2,_⟩:=J0n (a:=a) h
 rw[e1,e2]
 exact⟨L0c (Nat.div_le_self _ _),L0c (Nat.div_le_self _ _)⟩
def ratT (a:Int) (d:Nat):ByteArray:=ratS (Q05 a d).A (Q05 a d).D
theorem L0b {V:View} {x:WhV} {s:Sl} {a:Int} {d:Nat} (hx:y03 V x a) (hs:x00 V s d) (hd:d≠0) (ha:bl a.natAbs≤2^41) (hdb:bl d≤2^41) :
 a00 Tryz.prog f0r #[x.val,s.v] V fun v _=>v = .string (ratT a d):=by
 obtain⟨b1,b2⟩:=I0l (a:=a) hd
 have s1:=j0b (Q05 a d).A.natAbs
 have s2:=j0b (Q05 a d).D
 have hmax:IntKind.i64.max=9223372036854775807:=by decide
 have z1:(ByteArray.mk #[45]).size=1:=rfl
 have z2:(ByteArray.mk #[47]).size=1:=rfl
 refine U0o x s V _ ((X05 hx (y03.zero V) hs (I0n hd) (g0i (by omega)) (by rw[show Int.natAbs 0=0 from rfl,M09]; omega) (g0i (by omega))).mono fun v V1 l1 ⟨r,hv,hr⟩=>⟨r,hv,?_⟩)
 have hu:=hr.under
 have hn:=hr.re.1
 have hD:=(Q05 a d).D_pos
 refine(S09 hr.re.2 (by omega)).mono fun v V2 l2 hv=>⟨_,hv,fun hneg=>⟨by rw[z1,hmax]; omega,fun hul => ?_,fun hul => ?_⟩,fun hneg=>⟨fun hul => ?_,fun hul => ?_⟩⟩
 · simp only[gt_iff_lt,decide_eq_true_eq]at hul
   have h1:(Q05 a d).D≠1:=fun e=>by rw[e,if_pos rfl]at hu; have:=hu.len_zero.2 rfl; omega
   rw[if_neg h1]at hu
   refine(S09 (hu.le l2) (by omega)).mono fun v V3 l3 hv=>⟨_,hv,by rw[z2,hmax]; omega,by rw[l05,l05,z1,z2,hmax]; omega,?_⟩
   unfold ratT ratS
   rw[hneg]at hn
   have hn:(Q05 a d).A<0:=of_decide_eq_true hn.symm
   simp only[hn,h1,if_true,if_false]; rfl
 · simp only[gt_iff_lt,decide_eq_false_iff_not]at hul
   have h1:(Q05 a d).D=1:=by
    have:=hu.len_zero.1 (by omega)
    split at this<;>omega
   unfold ratT ratS
   rw[hneg]at hn
   have hn:(Q05 a d).A<0:=of_decide_eq_true hn.symm
   simp only[hn,h1,if_true]; rfl
 · simp only[gt_iff_lt,decide_eq_true_eq]at hul
   have h1:(Q05 a d).D≠1:=fun e=>by rw[e,if_pos rfl]at hu; have:=hu.len_zero.2 rfl; omega
   rw[if_neg h1]at hu
   refine(S09 (hu.le l2) (by omega)).mono fun v V3 l3 hv=>⟨_,hv,by rw[z2,hmax]; omega,by rw[l05,z2,hmax]; omega,?_⟩
   unfold ratT ratS
   rw[hneg]at hn
   have hn:¬(Q05 a d).A<0:=of_decide_eq_false hn.symm
   simp only[hn,h1,if_false]; rfl
 · simp only[gt_iff_lt,decide_eq_false_iff_not]at hul
   have h1:(Q05 a d).D=1:=by
    have:=hu.len_zero.1 (by omega)
    split at this<;>omega
   unfold ratT ratS
   rw[hneg]at hn
   have hn:¬(Q05 a d).A<0:=of_decide_eq_false hn.symm
   simp only[hn,h1,if_false,if_true]
theorem s0v (z:Cq):cqS z=if z.B=0 then ratT z.A z.D else if z.A=0 then ratT z.B z.D++strI else if z.B<0 then ratT z.A z.D++(ratT z.B z.D++strI)else ratT z.A z.D++(p0t++(ratT z.B z.D++strI)):=by
 unfold cqS
 rw[e0v,f0v]; rfl
theorem z0f {a:Int} {d:Nat} (h:d≠0):(ratT a d).size≤bl a.natAbs+bl d+4:=by
 have h1:=q0t (Q05 a d).A (Q05 a d).D
 obtain⟨b1,b2⟩:=I0l (a:=a) h
 unfold ratT; omega
theorem lenT (n:Nat):(((n:Int)==0)=true↔n=0):=by simp
theorem M0b {V:View} {x:NumV} {z:Cq} (hx:c01 V x z) (hz:z.sz≤2^40):a00 Tryz.prog T0q #[x.val] V fun v _=>v = .string (cqS z):=by
 have zA:=z.szA; have zB:=z.szB; have zD:=z.szD
 have hD:=z.D_pos
 have t1:=z0f (a:=z.A) hD
 have t2:=z0f (a:=z.B) hD
 have hmax:IntKind.i64.max=9223372036854775807:=by decide
 have z1:(ByteArray.mk #[105]).size=1:=rfl
 have z2:(ByteArray.mk #[43]).size=1:=rfl
 rw[s0v]
 refine W0o x V _ ((Y05 hx).mono fun v V1 l1 hv=>⟨_,hv,fun hr => ?_,fun hr => ?_⟩)
 · have hB:z.B=0:=by
     rw[Cq.B_zero]; simpa using hr
   refine(P02 (hx.le l1)).mono fun v V2 l2 ⟨r,hv,h2⟩=>⟨r,hv,?_⟩
   refine(L0b (hx.re.le (View.le_trans l1 l2)) h2 hD (by omega) (by omega)).mono fun v V3 l3 hv=>⟨_,hv,?_⟩
   rw[if_pos hB]
 · have hB:¬z.B=0:=by
     rw[Cq.B_zero]; simpa using hr
   rw[if_neg hB]
   refine(P02 (hx.le l1)).mono fun v V2 l2 ⟨r,hv,h2⟩=>⟨r,hv,?_⟩
   refine(L0b (hx.im.le (View.le_trans l1 l2)) h2 hD (by omega) (by omega)).mono fun v V3 l3 hv=>⟨_,hv,by rw[z1,hmax]; omega,fun hA => ?_,fun hA=>⟨fun hn=>⟨by rw[l05,z1,z2,hmax]; omega,?_⟩,fun hn => ?_⟩⟩
   · have hA:z.A=0:=by
       have:=(lenT _).1 hA
       have:=hx.re.2.len_zero.1 this; omega
     rw[if_pos hA]; rfl
   all_goals
    have hA:¬z.A=0:=by
     intro e
     have:=hx.re.2.len_zero.2 (by omega)
     rw[this]at hA; simp at hA
    rw[if_neg hA]
    have hneg:=hx.im.1
    refine(P02 (hx.le (View.le_trans l1 (View.le_trans l2 l3)))).mono fun v V4 l4 ⟨r4,hv,h4⟩=>⟨r4,hv,?_⟩
    refine(L0b (hx.re.le (View.le_trans l1 (View.le_trans l2 (View.le_trans l3 l4)))) h4 hD (by omega) (by omega)).mono fun v V5 l5 hv=>⟨_,hv,by simp only[l05,z1,z2]; rw[hmax]; omega,?_⟩
   · have hn:¬z.B<0:=by
       have:x.im.neg=false:=by simpa using hn
       rw[this]at hneg; exact of_decide_eq_false hneg.symm
     rw[if_neg hn]; rfl
   · have hn:z.B<0:=by
       have:x.im.neg=true:=by simpa using hn
       rw[this]at hneg; exact of_decide_eq_true hneg.symm
     rw[if_pos hn]; rfl
theorem fd32 (z:Nat):Int.fdiv (z:Int) (2^(min (Int.toNat 32) (IntKind.u64.bits)))=((z / 4294967296:Nat):Int):=by
 have e2:(2:Int)^(min (Int.toNat 32) (IntKind.u64.bits))=4294967296:=by decide
 rw[e2,Int.fdiv_eq_ediv_of_nonneg _ (by omega)]; omega
theorem fd63 (z:Nat):Int.fdiv (z:Int) (2^(min (Int.toNat 63) (IntKind.u64.bits)))=((z / 9223372036854775808:Nat):Int):=by
 have e2:(2:Int)^(min (Int.toNat 63) (IntKind.u64.bits))=9223372036854775808:=by decide
 rw[e2,Int.fdiv_eq_ediv_of_nonneg _ (by omega)]; omega
theorem u32n (z:Nat):IntKind.u32.wrap (z:Int)=((z%4294967296:Nat):Int):=by rw[u32m]; omega
theorem u64n {z:Nat} (h:z<18446744073709551616):IntKind.u64.wrap (z:Int)=(z:Int):=u64w (by omega) (by omega)
theorem W0t (c:Prop) [Decidable c] (a:Option Addr):(if c then a else Option.map (fun q=>Addr.add q (Int.toNat 0*1)) a)=a:=by
 have e:(fun q:Addr=>Addr.add q (Int.toNat 0*1))=id:=by funext q; simp[Addr.add]
 rw[e]; simp
theorem l04 {V:View} {s:Sl} {l:List Nat} (h:P01 V s l) (hs:l.length≤2^50) :
 a00 Tryz.prog H0o #[s.v] V fun v V'=>∃r:Sl,v=r.v∧x00 V' r (wval l):=by
 have hlen:=h.len
 refine Y0m s V _ (fun _ x _=>0≤x.t3∧x.t3≤s.len∧∀d∈l.drop x.t3.toNat,d=0) (fun _ x _=>x.t3.toNat) ⟨⟨Int.natCast_nonneg _,Int.le_refl _,?_⟩,?_⟩
 · intro d hd
   simp only[Int.toNat_natCast,hlen,List.drop_length]at hd
   simp at hd
 rintro⟨t⟩ V1 hle ⟨h0,h1,h2⟩
 simp only at h0 h1 h2 ⊢
 have hcap:=h.cap
 have out:t=0∨l.getD (t.toNat-1) 0≠0→x00 V1 (Sl.mk (if s.cap=Int.toNat 0 then s.a else Option.map (fun q=>Addr.add q (Int.toNat 0*1)) s.a) (Int.toNat t-Int.toNat 0) (s.cap-Int.toNat 0)) (wval l):=by
  intro hz
  have hw:wval l=wval (l.take t.toNat):=by
   rw[g0f l t.toNat,F0g h2]; omega
  rw[hw,W0t]
  refine X0n ⟨?_,?_,?_,h.wb.take _⟩ ?_
  · intro i d hi
    have hi':i<t.toNat:=by
     rcases Nat.lt_or_ge i t.toNat with h|h
     · exact h
     · rw[List.getElem?_eq_none (by simp; omega)]at hi; simp at hi
    rw[List.getElem?_take_of_lt hi']at hi
    exact Q03 hle (h.load i d hi)
  · simp; omega
  · simp only[Int.toNat_zero]; omega
  · intro d hd
    rcases hz with rfl|hz
    · simp at hd
    · have h3:t.toNat≠0:=by
        intro e; rw[e]at hd; simp at hd
      rw[List.getLast?_eq_getElem?]at hd
      have h4:(l.take t.toNat).length=t.toNat:=by simp; omega
      rw[h4,List.getElem?_take_of_lt (by omega)]at hd
      simp only[List.getD,hd,Option.getD_some]at hz
      exact hz
 refine⟨fun hp => ?_,fun hp=>⟨by simp,fun _=>⟨⟨by omega,by omega,by omega⟩,_,rfl,out (.inl ?_)⟩⟩⟩
 · simp only[decide_eq_true_eq]at hp
   rw[i64w (by omega) (by omega)]
   refine⟨⟨by omega,by omega,h.isSome (by omega)⟩,_,(h.le hle).get (by omega) (by omega),fun hz => ?_,fun hz=>⟨⟨by omega,by omega,by omega⟩,_,rfl,out (.inr ?_)⟩⟩
   · simp only[beq_iff_eq]at hz
     refine⟨⟨by omega,by omega,fun d hd => ?_⟩,by omega⟩
     have hlt:(t-1).toNat<l.length:=by omega
     rw[List.drop_eq_getElem_cons hlt]at hd
     rcases List.mem_cons.1 hd with rfl|hd
     · simp only[List.getD,List.getElem?_eq_getElem hlt,Option.getD_some]at hz; omega
     · exact h2 d (by rw[show(t-1).toNat+1=t.toNat by omega]at hd; exact hd)
   · simp only[beq_eq_false_iff_ne,ne_eq]at hz
     rw[show t.toNat-1=(t-1).toNat by omega]
     intro e; rw[e]at hz; exact hz rfl
 · simp only[decide_eq_false_iff_not]at hp; omega
theorem T09 {V:View} {n:Int} (h0:0≤n) (h1:n≤18446744073709551615) :
 a00 Tryz.prog D0m #[.int .u64 n] V fun v V'=>∃r:Sl,v=r.v∧x00 V' r n.toNat:=by
 refine e0l n V _ fun b V1 hle _ hb => ?_
 obtain⟨m,rfl⟩:∃m:Nat,n=m:=⟨n.toNat,by omega⟩
 rw[fd32,u32n,u32n,Nat.mod_eq_of_lt (show m / 4294967296<4294967296 by omega)]at hb
 have hw:P01 V1 (Sl.mk (some (Addr.mk b 0 none)) 2 2) [m%4294967296,m / 4294967296] :=
  P01.of_block (by rw[hb]; rfl) rfl (by omega) (by intro d hd; simp at hd; omega)
 refine(l04 hw (by simp)).mono fun v V' _ ⟨r,hv,hr⟩=>⟨r,hv,_,rfl,?_⟩
 have:wval [m%4294967296,m / 4294967296]=(m:Int).toNat:=by simp[wval]; omega
 rw[this]at hr; exact hr
theorem a0c {V:View} {s t:Sl} {a b:Nat} (hs:x00 V s a) (ht:x00 V t b) (hb:wn a≤2^50) :
 a00 Tryz.prog M0k #[s.v,t.v] V fun v _=>v = .int .i64 (if a<b then -1 else if a=b then 0 else 1):=by
 have h1:=hs.len
 have h2:=ht.len
 simp only[wn]at hb
 refine k0j s t V _ (fun _ x _ => -1≤x.t5∧x.t5<s.len∧(dig a).drop (x.t5+1).toNat=(dig b).drop (x.t5+1).toNat) (fun _ x _=>(x.t5+1).toNat) ⟨fun hne=>⟨fun hlt => ?_,fun hlt => ?_⟩,fun he=>⟨?_,?_⟩⟩
 · have:=C0d (a:=a) (b:=b) (by simpa [h1,h2]using hlt)
   simp[this]
 · have hne:¬(s.len:Int)=t.len:=by simpa using hne
   have hlt:¬s.len<t.len:=by simpa using hlt
   have:=C0d (a:=b) (b:=a) (by omega)
   rw[if_neg (by omega),if_neg (by omega)]
 · have he:(s.len:Int)=t.len:=by simpa using he
   rw[i64w (by omega) (by omega)]
   refine⟨?_,?_,?_⟩
   · show(-1:Int)≤s.len-1; omega
   · show(s.len:Int)-1<s.len; omega
   · rw[List.drop_eq_nil_of_le,List.drop_eq_nil_of_le]<;>simp<;>omega
 · have he:(s.len:Int)=t.len:=by simpa using he
   rintro⟨i⟩ V1 hle ⟨i0,i1,hd⟩
   simp only at i0 i1 hd ⊢
   refine⟨fun hp => ?_,fun hp => ?_⟩
   · simp only[ge_iff_le,decide_eq_true_eq]at hp
     refine⟨⟨by omega,by omega,hs.isSome (by omega)⟩,_,(hs.le hle).get (by omega) (by omega),⟨by omega,by omega,ht.isSome (by omega)⟩,_,(ht.le hle).get (by omega) (by omega),fun hne =>
      ⟨⟨by omega,by omega,hs.isSome (by omega)⟩,_,(hs.le hle).get (by omega) (by omega),⟨by omega,by omega,ht.isSome (by omega)⟩,_,(ht.le hle).get (by omega) (by omega),fun hlt => ?_,fun hge => ?_⟩,fun heq => ?_⟩
     · have hlt:(dig a).getD i.toNat 0<(dig b).getD i.toNat 0:=by simpa using hlt
       have:=D0d (y05 a) (by omega) (i:=i.toNat) (by omega) (by rw[show i.toNat+1=(i+1).toNat by omega]; exact hd) hlt
       rw[z01,z01]at this
       simp[this]
     · have hne:¬(dig a).getD i.toNat 0=(dig b).getD i.toNat 0:=by
         intro e; rw[e]at hne; simp at hne
       have hge:¬(dig a).getD i.toNat 0<(dig b).getD i.toNat 0:=by simpa using hge
       have:=D0d (y05 b) (by omega) (i:=i.toNat) (by omega) (by rw[show i.toNat+1=(i+1).toNat by omega]; exact hd.symm) (by omega:(dig b).getD i.toNat 0<(dig a).getD i.toNat 0)
       rw[z01,z01]at this
       rw[if_neg (by omega),if_neg (by omega)]
     · have heq:(((dig a).getD i.toNat 0:Nat):Int)=(((dig b).getD i.toNat 0:Nat):Int):=by simpa using heq
       rw[i64w (by omega) (by omega)]
       refine⟨⟨by show(-1:Int)≤i-1; omega,by show i-1<(s.len:Int); omega,?_⟩,by show(i-1+1).toNat<(i+1).toNat; omega⟩
       have e:(i-1+1).toNat=i.toNat:=by omega
       show(dig a).drop (i-1+1).toNat=(dig b).drop (i-1+1).toNat
       rw[e,List.drop_eq_getElem_cons (by omega:i.toNat<(dig a).length),List.drop_eq_getElem_cons (by omega:i.toNat<(dig b).length)]
       have e2:i.toNat+1=(i+1).toNat:=by omega
       rw[e2,hd]
       congr 1
       simp only[List.getD,List.getElem?_eq_getElem (by omega:i.toNat<(dig a).length),List.getElem?_eq_getElem (by omega:i.toNat<(dig b).length),Option.getD_some]at heq
       omega
   · simp only[ge_iff_le,decide_eq_false_iff_not]at hp
     have e:(i+1).toNat=0:=by omega
     rw[e]at hd
     have:=E0t (by simpa using hd)
     subst this
     simp
theorem c0h {V:View} {s t:Sl} {a b:Nat} (hs:x00 V s a) (ht:x00 V t b) (ha:wn a≤2^45) (hb:wn b≤2^45) :
 a00 Tryz.prog L0k #[s.v,t.v] V fun v V'=>∃r:Sl,v=r.v∧x00 V' r (a+b):=by
 refine l0j s t V _ (fun _ x V'=>∃a' b',x00 V' x.t0 a'∧x00 V' x.t1 b'∧a'+b'=a+b∧wn a'≤2^45∧x.t1.len≤x.t0.len)
  (fun c x V'=>∃a' b' l k,x00 V' c.t0 a'∧x00 V' c.t1 b'∧a'+b'=a+b∧c.t1.len≤c.t0.len∧x.o19=wv l∧WB l∧l.length=c.t0.len+1∧x.t6=(k:Nat)∧k≤1∧0≤x.t7∧x.t7≤c.t0.len ∧
    wval (l.take x.t7.toNat)+k*4294967296^x.t7.toNat=wval ((dig a').take x.t7.toNat)+wval ((dig b').take x.t7.toNat))
  (fun c x _=>(c.t0.len-x.t7).toNat) ⟨⟨fun h=>⟨b,a,ht,hs,by omega,hb,?_⟩,fun h=>⟨a,b,hs,ht,rfl,ha,?_⟩⟩,?_⟩
 · have:s.len<t.len:=by simpa using h
   exact Nat.le_of_lt this
 · have:¬s.len<t.len:=by simpa using h
   exact Nat.le_of_not_lt this
 rintro⟨x,y⟩ V1 hle ⟨a',b',hx,hy,hab,hwa,hlen⟩
 simp only at hx hy hlen ⊢
 have hxl:=hx.len
 have hyl:=hy.len
 simp only[wn]at hwa
 rw[i64w (n:=(x.len:Int)+1) (by omega) (by omega)]
 refine⟨⟨by omega,by omega,by omega,by omega⟩,⟨a',b',List.replicate (x.len+1) 0,0,hx,hy,hab,hlen,?_,WB.zeros _,by simp,rfl,by omega,Int.le_refl _,by show(0:Int)≤x.len; omega,by simp[wval]⟩,?_⟩
 · show(List.replicate (Int.toNat ((x.len:Int)+1)) [Value.int .u32 0]).flatten=_
   rw[show Int.toNat ((x.len:Int)+1)=x.len+1 by omega,g05]
 rintro⟨k,i,o⟩ V2 hle2 ⟨a2,b2,l,k',hx2,hy2,hab2,_,ho,hwb,hl,hk,hk1,hi0,hi1,hval⟩
 simp only at ho hk hi0 hi1 hval hx2 hy2 hl ⊢
 obtain rfl:=hx2.inj (hx.le hle2)
 obtain rfl:=hy2.inj (hy.le hle2)
 subst hk
 refine⟨fun hp => ?_,fun hp => ?_⟩
 · simp only[decide_eq_true_eq]at hp
   have step:∀(z:Nat),z=(dig a2).getD i.toNat 0+(dig b2).getD i.toNat 0+k'→z<8589934592 →
    (∃a' b' l k,x00 V2 x a'∧x00 V2 y b'∧a'+b'=a+b∧y.len≤x.len∧List.set o (0+Int.toNat i*1) (.int .u32 ((z%4294967296:Nat):Int))=wv l∧WB l∧l.length=x.len+1∧((z / 4294967296:Nat):Int)=(k:Nat)∧k≤1∧0≤i+1∧i+1≤x.len ∧
      wval (l.take (i+1).toNat)+k*4294967296^(i+1).toNat=wval ((dig a').take (i+1).toNat)+wval ((dig b').take (i+1).toNat)):=by
    intro z hz hlt
    refine⟨a2,b2,l.set i.toNat (z%4294967296),z / 4294967296,hx2,hy2,hab,hlen,?_,hwb.set (by omega),by simpa using hl,rfl,by omega,by omega,by omega,?_⟩
    · rw[ho,show 0+Int.toNat i*1=i.toNat by omega,j05]
    · rw[show(i+1).toNat=i.toNat+1 by omega,E06 (by omega),O00,O00,Nat.pow_succ]
      have hrc:z%4294967296+z / 4294967296*4294967296=(dig a2).getD i.toNat 0+(dig b2).getD i.toNat 0+k':=by omega
      have:=congrArg (·*4294967296^i.toNat) hrc
      simp only[Nat.add_mul]at this
      grind
   have w1:=hx2.getD_lt i.toNat
   have w2:=hy2.getD_lt i.toNat
   rw[i64w (n:=i+1) (by omega) (by omega)]
   refine⟨⟨by omega,by omega,hx.isSome (by omega)⟩,_,hx2.get (by omega) (by omega),fun hp2 => ?_,fun hp2 => ?_⟩
   · simp only[decide_eq_true_eq]at hp2
     refine⟨⟨by omega,by omega,hy.isSome (by omega)⟩,_,hy2.get (by omega) (by omega),⟨by omega,by omega⟩,by rw[ho,H00]; omega,?_⟩
     rw[u64n (z:=(dig a2).getD i.toNat 0) (by omega),u64n (z:=(dig b2).getD i.toNat 0) (by omega),←Int.natCast_add,u64n (by omega),←Int.natCast_add,u64n (by omega),fd32,u32n]
     have g:=step ((dig a2).getD i.toNat 0+k'+(dig b2).getD i.toNat 0) (by omega) (by omega)
     exact⟨g,by show((x.len:Int)-(i+1)).toNat<((x.len:Int)-i).toNat; omega⟩
   · simp only[decide_eq_false_iff_not]at hp2
     have w2:(dig b2).getD i.toNat 0=0:=by simp only[List.getD]; rw[List.getElem?_eq_none (by omega)]; rfl
     refine⟨⟨by omega,by omega⟩,by rw[ho,H00]; omega,?_⟩
     rw[u64n (z:=(dig a2).getD i.toNat 0) (by omega),←Int.natCast_add,u64n (by omega),fd32,u32n]
     have g:=step ((dig a2).getD i.toNat 0+k') (by omega) (by omega)
     exact⟨g,by show((x.len:Int)-(i+1)).toNat<((x.len:Int)-i).toNat; omega⟩
 · simp only[decide_eq_false_iff_not]at hp
   refine⟨⟨by omega,by omega⟩,by rw[ho,H00]; omega,fun b1 V5 hle5 hb => ?_⟩
   have hi:i.toNat=x.len:=by omega
   have ek:IntKind.u32.wrap (k':Int)=(k':Int):=u32w (by omega) (by omega)
   have hw:P01 V5 (Sl.mk (some (Addr.mk b1 0 none)) (Int.toNat ((x.len:Int)+1)) (Int.toNat ((x.len:Int)+1))) (l.set x.len k') :=
    P01.of_block (by rw[hb,ho,show 0+Int.toNat (x.len:Int)*1=x.len by omega,ek,j05]) (by simp; omega) (Nat.le_refl _) (hwb.set (by omega))
   refine(l04 hw (by simp; omega)).mono fun v V6 _ ⟨r,hv,hr⟩=>⟨r,hv,r,rfl,?_⟩
   have e:wval (l.set x.len k')=a+b:=by
    have h1:(l.set x.len k')=(l.set x.len k').take (x.len+1):=by rw[List.take_of_length_le]; simp; omega
    rw[h1,E06 (by omega)]
    rw[hi,s01 (l:=dig a2) (by omega),s01 (l:=dig b2) (by omega),z01,z01]at hval
    omega
   rw[e]at hr; exact hr
theorem X0w {A B k:Nat} (hA:A<4294967296) (hB:B<4294967296) (hk:k≤1) :
 ∃r c:Nat,Int.fdiv (IntKind.u64.wrap ((IntKind.u64.wrap ((A:Int)-(k:Int)))-(B:Int))) (2^(min (Int.toNat 63) (IntKind.u64.bits)))=(c:Int) ∧
  IntKind.u32.wrap (IntKind.u64.wrap ((IntKind.u64.wrap ((A:Int)-(k:Int)))-(B:Int)))=(r:Int)∧r+B+k=A+c*4294967296∧r<4294967296∧c≤1:=by
 have e:IntKind.u64.wrap ((IntKind.u64.wrap ((A:Int)-(k:Int)))-(B:Int))=(((A:Int)-k-B)%18446744073709551616):=by
  rw[u64m,u64m]; omega
 rw[e]
 obtain⟨m,hm⟩:∃m:Nat,((A:Int)-k-B)%18446744073709551616=m:=⟨(((A:Int)-k-B)%18446744073709551616).toNat,by omega⟩
 rw[hm,fd63,u32n]
 exact⟨m%4294967296,m / 9223372036854775808,rfl,rfl,by omega,by omega,by omega⟩
theorem b0c {V:View} {s t:Sl} {a b:Nat} (hs:x00 V s a) (ht:x00 V t b) (ha:wn a≤2^45) (hba:b≤a) :
 a00 Tryz.prog N0k #[s.v,t.v] V fun v V'=>∃r:Sl,v=r.v∧x00 V' r (a-b):=by
 have hsl:=hs.len
 have htl:=ht.len
 have hwn:=D0a hba
 simp only[wn]at ha hwn
 refine m0j s t V _
  (fun _ x V'=>∃l k:_,x.o11=wv l∧WB l∧l.length=s.len∧x.t6=(k:Nat)∧k≤1∧0≤x.t7∧x.t7≤s.len ∧
    wval (l.take x.t7.toNat)+wval ((dig b).take x.t7.toNat)=wval ((dig a).take x.t7.toNat)+k*4294967296^x.t7.toNat)
  (fun _ x _=>(s.len-x.t7).toNat) ⟨⟨by omega,by omega,by omega,by omega⟩,⟨List.replicate s.len 0,0,?_,WB.zeros _,by simp,rfl,by omega,Int.le_refl _,by show(0:Int)≤s.len; omega,by simp[wval]⟩,?_⟩
 · show(List.replicate (Int.toNat (s.len:Int)) [Value.int .u32 0]).flatten=_
   rw[Int.toNat_natCast,g05]
 rintro⟨k,i,o⟩ V2 hle2 ⟨l,k',ho,hwb,hl,hk,hk1,hi0,hi1,hval⟩
 simp only at ho hk hi0 hi1 hval hl ⊢
 subst hk
 have hx2:=hs.le hle2
 have hy2:=ht.le hle2
 refine⟨fun hp => ?_,fun hp => ?_⟩
 · simp only[decide_eq_true_eq]at hp
   have step:∀(r c:Nat),r+(dig b).getD i.toNat 0+k'=(dig a).getD i.toNat 0+c*4294967296→r<4294967296→c≤1 →
    (∃l k:_,List.set o (0+Int.toNat i*1) (.int .u32 (r:Nat))=wv l∧WB l∧l.length=s.len∧(c:Int)=(k:Nat)∧k≤1∧0≤i+1∧i+1≤s.len ∧
      wval (l.take (i+1).toNat)+wval ((dig b).take (i+1).toNat)=wval ((dig a).take (i+1).toNat)+k*4294967296^(i+1).toNat):=by
    intro r c hrc hr hc
    refine⟨l.set i.toNat r,c,?_,hwb.set hr,by simpa using hl,rfl,hc,by omega,by omega,?_⟩
    · rw[ho,show 0+Int.toNat i*1=i.toNat by omega,j05]
    · rw[show(i+1).toNat=i.toNat+1 by omega,E06 (by omega),O00,O00,Nat.pow_succ]
      have:=congrArg (·*4294967296^i.toNat) hrc
      simp only[Nat.add_mul]at this
      grind
   have w1:=hx2.getD_lt i.toNat
   have w2:=hy2.getD_lt i.toNat
   rw[i64w (n:=i+1) (by omega) (by omega)]
   refine⟨⟨by omega,by omega,hs.isSome (by omega)⟩,_,hx2.get (by omega) (by omega),fun hp2 => ?_,fun hp2 => ?_⟩
   · simp only[decide_eq_true_eq]at hp2
     refine⟨⟨by omega,by omega,ht.isSome (by omega)⟩,_,hy2.get (by omega) (by omega),⟨by omega,by omega⟩,by rw[ho,H00]; omega,?_⟩
     obtain⟨r,c,e1,e2,e3,e4,e5⟩:=X0w w1 w2 hk1
     rw[u64n (z:=(dig a).getD i.toNat 0) (by omega),u64n (z:=(dig b).getD i.toNat 0) (by omega),e1,e2]
     exact⟨step r c e3 e4 e5,by show((s.len:Int)-(i+1)).toNat<((s.len:Int)-i).toNat; omega⟩
   · simp only[decide_eq_false_iff_not]at hp2
     have w2:(dig b).getD i.toNat 0=0:=by simp only[List.getD]; rw[List.getElem?_eq_none (by omega)]; rfl
     refine⟨⟨by omega,by omega⟩,by rw[ho,H00]; omega,?_⟩
     obtain⟨r,c,e1,e2,e3,e4,e5⟩:=X0w w1 (show 0<4294967296 by omega) hk1
     have e0:IntKind.u64.wrap ((IntKind.u64.wrap ((((dig a).getD i.toNat 0:Nat):Int)-(k':Int)))-((0:Nat):Int))=IntKind.u64.wrap ((((dig a).getD i.toNat 0:Nat):Int)-(k':Int)):=by
      rw[u64m,u64m]; omega
     rw[e0]at e1 e2
     rw[u64n (z:=(dig a).getD i.toNat 0) (by omega),e1,e2]
     exact⟨step r c (by omega) e4 e5,by show((s.len:Int)-(i+1)).toNat<((s.len:Int)-i).toNat; omega⟩
 · simp only[decide_eq_false_iff_not]at hp
   intro b1 V5 hle5 hb
   have hi:i.toNat=s.len:=by omega
   have hw:P01 V5 (Sl.mk (some (Addr.mk b1 0 none)) (Int.toNat (s.len:Int)) (Int.toNat (s.len:Int))) l :=
    P01.of_block (by rw[hb,ho]) (by omega) (Nat.le_refl _) hwb
   refine(l04 hw (by omega)).mono fun v V6 _ ⟨r,hv,hr⟩=>⟨r,hv,r,rfl,?_⟩
   rw[hi,s01 (l:=dig a) (by omega),s01 (l:=dig b) (by omega),s01 (by omega),z01,z01]at hval
   have h3:=d0i hwb
   have e:wval l=a-b:=by
    rcases Nat.eq_zero_or_pos k' with h0|h0
    · subst h0; omega
    · have:k'=1:=by omega
      subst this
      rw[hl]at h3
      omega
   rw[e]at hr; exact hr
theorem J0l {a b:Nat} (ha:a<4294967296) (hb:b<4294967296):a*b≤18446744065119617025 :=
 Nat.le_trans (Nat.mul_le_mul (Nat.le_of_lt_succ ha) (Nat.le_of_lt_succ hb)) (by decide)
theorem b07 {V:View} {s t:Sl} {a b:Nat} (hs:x00 V s a) (ht:x00 V t b) (ha:wn a≤2^44) (hb:wn b≤2^44) :
 a00 Tryz.prog E0k #[s.v,t.v] V fun v V'=>∃r:Sl,v=r.v∧x00 V' r (a*b):=by
 have hsl:=hs.len
 have htl:=ht.len
 simp only[wn]at ha hb
 refine n0j s t V _
  (fun _ x _=>∃i l,x=n02.mk (i:Nat) (wv l)∧i≤s.len∧WB l∧l.length=s.len+t.len∧seg l 0 (i+t.len)=wval ((dig a).take i)*b)
  (fun _ x _=>(s.len-x.t6).toNat)
  (fun c x _=>∃i k cr l,c=X01.mk (i:Nat)∧i<s.len∧x=o02.mk (cr:Nat) (k:Nat) (wv l)∧WB l∧l.length=s.len+t.len∧k≤t.len∧cr<4294967296 ∧
    seg l 0 (i+t.len)+cr*4294967296^(i+k)=wval ((dig a).take i)*b+(dig a).getD i 0*wval ((dig b).take k)*4294967296^i)
  (fun _ x _=>(t.len-x.t8).toNat) ?_
 rw[i64w (n:=(s.len:Int)+t.len) (by omega) (by omega)]
 have hn:Int.toNat ((s.len:Int)+t.len)=s.len+t.len:=by omega
 rw[hn]
 refine⟨⟨by omega,by omega,by omega,by omega⟩,⟨0,List.replicate (s.len+t.len) 0,?_,by omega,WB.zeros _,by simp,?_⟩,?_⟩
 · rw[g05]; rfl
 · rw[q0l]; simp[wval]
 rintro _ V2 hle2 ⟨i,l,rfl,hi,hwb,hl,hval⟩
 refine⟨fun hp => ?_,fun hp b1 V4 hle4 hb1 => ?_⟩
 · simp only[decide_eq_true_eq]at hp
   refine⟨⟨i,0,0,l,rfl,by omega,rfl,hwb,hl,by omega,by omega,by simp[hval,wval]⟩,?_⟩
   rintro _ V3 hle3 ⟨i',k,cr,l',hc,hi',rfl,hwb',hl',hk,hcr,hval'⟩
   obtain rfl:i=i':=by simp only[X01.mk.injEq]at hc; omega
   have hbd:=(y05 a).getD i
   simp only[Int.toNat_natCast]
   refine⟨fun hq => ?_,fun hq => ?_⟩
   · simp only[decide_eq_true_eq]at hq
     have hbk:=(y05 b).getD k
     have hwl:=hwb'.getD (i+k)
     have hm:=J0l hbd hbk
     have hik:i+k<l'.length:=by omega
     rw[i64w (n:=(i:Int)+k) (by omega) (by omega),i64w (n:=(k:Int)+1) (by omega) (by omega)]
     have e1:Int.toNat ((i:Int)+k)=i+k:=by omega
     rw[e1]
     refine⟨⟨by omega,hp,hs.isSome (by omega)⟩,_,(hs.le (View.le_trans hle2 hle3)).get (by show(0:Int)≤(i:Nat); omega) hp,⟨by omega,hq,ht.isSome (by omega)⟩,_,(ht.le (View.le_trans hle2 hle3)).get (by show(0:Int)≤(k:Nat); omega) hq,⟨by omega,by omega⟩,((l'.getD (i+k) 0:Nat):Int),?_,⟨by omega,by omega⟩,?_,?_⟩
     · rw[show 0+(i+k)*1=i+k by omega]; exact U07 hik
     · rw[H00]; omega
     simp only[Int.toNat_natCast]
     rw[u64n (z:=(dig a).getD i 0) (by omega),u64n (z:=(dig b).getD k 0) (by omega),u64n (z:=l'.getD (i+k) 0) (by omega),←Int.natCast_mul,u64n (z:=(dig a).getD i 0*(dig b).getD k 0) (by omega),←Int.natCast_add,
      u64n (z:=(dig a).getD i 0*(dig b).getD k 0+l'.getD (i+k) 0) (by omega),←Int.natCast_add,u64n (by omega),fd32,u32n,show 0+(i+k)*1=i+k by omega]
     generalize hm':(dig a).getD i 0*(dig b).getD k 0=m at *
     generalize hd:m+l'.getD (i+k) 0+cr=z
     rw[j05]
     refine⟨⟨i,k+1,z / 4294967296,l'.set (i+k) (z%4294967296),rfl,by omega,by simp,hwb'.set (by omega),by simpa using hl',by omega,by omega,?_⟩,by show((t.len:Int)-((k:Int)+1)).toNat<((t.len:Int)-k).toNat; omega⟩
     have h1:=o0l (l:=l') (p:=i+k) (d:=z%4294967296) (j:=0) (k:=i+t.len) (by omega) (by omega) hik
     rw[Nat.sub_zero]at h1
     rw[O00,←Nat.add_assoc,Nat.pow_succ]
     have h2:z%4294967296+z / 4294967296*4294967296=z:=by omega
     have h3:=congrArg (·*4294967296^(i+k)) h2
     rw[←hd]at h3
     simp only[Nat.add_mul]at h3
     have h4:(dig a).getD i 0*((dig b).getD k 0*4294967296^k)*4294967296^i=m*4294967296^(i+k):=by rw[←hm',Nat.pow_add]; grind
     rw[←hd]at h1
     rw[Nat.mul_add,Nat.add_mul,h4,←hd]
     have h5:∀q,q*(4294967296^(i+k)*4294967296)=q*4294967296*4294967296^(i+k):=by intro q; grind
     rw[h5]
     omega
   · simp only[decide_eq_false_iff_not]at hq
     have hkt:k=t.len:=by omega
     subst hkt
     rw[i64w (n:=(i:Int)+t.len) (by omega) (by omega),i64w (n:=(i:Int)+1) (by omega) (by omega)]
     have e1:Int.toNat ((i:Int)+t.len)=i+t.len:=by omega
     rw[e1,show 0+(i+t.len)*1=i+t.len by omega,u32w (by omega) (by omega),j05,H00]
     refine⟨⟨by omega,by omega⟩,by omega,⟨i+1,l'.set (i+t.len) cr,by simp,by omega,hwb'.set hcr,by simpa using hl',?_⟩,by show((s.len:Int)-((i:Int)+1)).toNat<((s.len:Int)-i).toNat; omega⟩
     rw[show i+1+t.len=i+t.len+1 by omega,G02 (by omega) (by omega),hval',O00,s01 (l:=dig b) (by omega),z01]
     grind
 · simp only[decide_eq_false_iff_not]at hp
   have hi':i=s.len:=by omega
   subst hi'
   rw[f07 (by omega),s01 (l:=dig a) (by omega),z01]at hval
   have hw:P01 V4 (Sl.mk (some (Addr.mk b1 0 none)) (s.len+t.len) (s.len+t.len)) l:=P01.of_block hb1 (by omega) (Nat.le_refl _) hwb
   refine(l04 hw (by omega)).mono fun v V6 _ ⟨r,hv,hr⟩=>⟨r,hv,r,rfl,?_⟩
   rw[hval]at hr; exact hr
theorem o0a {V:View} {s:Sl} {a d:Nat} (hs:x00 V s a) (ha:wn a≤2^45) (hd0:0<d) (hd:d<4294967296) :
 a00 Tryz.prog P0h #[s.v,.int .u32 (d:Int)] V fun v V'=>∃r:Sl,v = .tuple #[r.v,.int .u32 ((a%d:Nat):Int)]∧x00 V' r (a / d):=by
 have hsl:=hs.len
 simp only[wn]at ha
 refine X0g s d V _
  (fun _ x _=>∃(j k rest:Nat) (l:List Nat),x=H01.mk (rest:Nat) ((j:Int)-1) (wv l)∧j+k=s.len∧WB l∧l.length=s.len∧rest<d∧seg (dig a) j k=seg l j k*d+rest)
  (fun _ x _=>(x.t8+1).toNat) ⟨⟨by omega,by omega,by omega,by omega⟩,⟨s.len,0,0,List.replicate s.len 0,?_,by omega,WB.zeros _,by simp,hd0,by simp[H05]⟩,?_⟩
 · rw[i64w (by omega) (by omega),Int.toNat_natCast,g05]; rfl
 rintro _ V1 hle ⟨j,k,rest,l,rfl,hjk,hwb,hl,hr,hval⟩
 refine⟨fun hp => ?_,fun hp b1 V3 hle3 hb1 => ?_⟩
 · simp only[ge_iff_le,decide_eq_true_eq]at hp
   obtain⟨i,rfl⟩:∃i,j=i+1:=⟨j-1,by omega⟩
   simp only[show(((i+1:Nat):Int)-1)=(i:Nat)by omega,Int.toNat_natCast]
   have hw:=(y05 a).getD i
   have h1:(rest*4294967296+(dig a).getD i 0) / d<4294967296:=by
    rw[Nat.div_lt_iff_lt_mul (by omega)]
    have:=Nat.mul_le_mul_right 4294967296 (Nat.succ_le_of_lt hr)
    rw[Nat.succ_mul]at this
    omega
   have h2:(rest*4294967296+(dig a).getD i 0)%d<d:=Nat.mod_lt _ (by omega)
   have e:(2:Int)^(min (Int.toNat 32) (IntKind.u64.bits))=4294967296:=by decide
   refine⟨⟨by omega,by omega,hs.isSome (by omega)⟩,_,(hs.le hle).get (i:=(i:Nat)) (by omega) (by omega),?_⟩
   simp only[Int.toNat_natCast]
   rw[u64n (z:=d) (by omega),u64n (z:=(dig a).getD i 0) (by omega),e,show(rest:Int)*4294967296=((rest*4294967296:Nat):Int)by omega,u64n (z:=rest*4294967296) (by omega),or64 hw (by omega),
    u64n (z:=rest*4294967296+(dig a).getD i 0) (by omega),←Int.ofNat_tdiv,←Int.ofNat_tmod,u64n (by omega),u32n,Nat.mod_eq_of_lt h1,i64w (by omega) (by omega),show 0+i*1=i by omega,j05]
   refine⟨by omega,⟨by omega,by omega⟩,by rw[H00]; omega,by omega,⟨i,k+1,_,_,rfl,by omega,hwb.set h1,by simpa using hl,Nat.mod_lt _ hd0,?_⟩,by show((i:Int)-1+1).toNat<((i:Int)+1).toNat; omega⟩
   rw[Nat.add_comm k 1,J07,J07 _ i 1 k,hval,Z07 (j:=i+1) (by omega),D02,D02,H05,H05,Nat.add_zero,m06,if_pos ⟨rfl,by omega⟩]
   have:=Nat.div_add_mod (rest*4294967296+(dig a).getD i 0) d
   generalize (rest*4294967296+(dig a).getD i 0) / d=q at *
   generalize (rest*4294967296+(dig a).getD i 0)%d=m at *
   simp only[Nat.pow_zero,Nat.mul_one,Nat.pow_one,Nat.zero_add,Nat.mul_add,Nat.add_mul]
   have e2:4294967296*(seg l (i+1) k*d)=4294967296*seg l (i+1) k*d:=by rw[Nat.mul_assoc]
   have e3:q*d=d*q:=Nat.mul_comm _ _
   omega
 · simp only[ge_iff_le,decide_eq_false_iff_not]at hp
   have hj:j=0:=by omega
   subst hj
   have hk:k=s.len:=by omega
   subst hk
   have hw:P01 V3 (Sl.mk (some (Addr.mk b1 0 none)) (Int.toNat (s.len:Int)) (Int.toNat (s.len:Int))) l:=P01.of_block hb1 (by omega) (Nat.le_refl _) hwb
   rw[f07 (by omega),f07 (by omega),z01]at hval
   have e1:a / d=wval l:=by rw[hval,Nat.mul_comm,Nat.mul_add_div hd0,Nat.div_eq_of_lt hr]; omega
   have e2:a%d=rest:=by rw[hval,Nat.mul_comm,Nat.mul_add_mod,Nat.mod_eq_of_lt hr]
   refine(l04 hw (by omega)).mono fun v V6 _ ⟨r,hv,hr⟩=>⟨r,hv,r,?_,?_⟩
   · rw[e2,u32n,Nat.mod_eq_of_lt (by omega)]
   · rw[e1]; exact hr
theorem Y0v {x:Nat} (h:x≠0):bl x=bl (x / 2)+1:=by
 by_cases h1:x=1
 · subst h1; decide
 · have:=L0p (m:=x) 1 (by omega)
   simpa using this
theorem k0g {V:View} {s:Sl} {a:Nat} (hs:x00 V s a) (ha:wn a≤2^45) :
 a00 Tryz.prog U0i #[s.v] V fun v _=>v = .int .i64 (bl a:Nat):=by
 have hsl:=hs.len
 have hwn:wn a=s.len:=by simp only[wn]; exact hsl.symm
 refine Y0h s V _ (fun _ x _=>∃k y:Nat,x=Q01.mk (k:Nat) (y:Nat)∧k+bl y=bl ((dig a).getD (wn a-1) 0)∧k≤32) (fun _ x _=>x.t4.toNat) ⟨fun h => ?_,fun h => ?_⟩
 · have h:(s.len:Int)=0:=by simpa using h
   have:a=0:=L05.1 (by omega)
   subst this; rfl
 · have h:¬(s.len:Int)=0:=by simpa using h
   have ha0:a≠0:=by rintro rfl; rw[M09]at hwn; omega
   rw[i64w (n:=(s.len:Int)-1) (by omega) (by omega)]
   have e:Int.toNat ((s.len:Int)-1)=wn a-1:=by omega
   have h2:=O0w ha0
   have h3:bl ((dig a).getD (wn a-1) 0)≤32:=by
    have h3:=(C09 ha0).2.2
    have:=t0l h3
    have:=(y05 a).getD (wn a-1)
    have:=(Nat.pow_lt_pow_iff_right (a:=2) (n:=bl ((dig a).getD (wn a-1) 0)-1) (m:=32) (by omega)).1 (by omega)
    omega
   refine⟨⟨by omega,by omega,hs.isSome (by omega)⟩,_,hs.get (by omega) (by omega),⟨0,_,rfl,by rw[e]; omega,by omega⟩,?_⟩
   rintro _ V1 l1 ⟨k,y,rfl,hk,hk2⟩
   refine⟨fun hp => ?_,fun hp => ?_⟩
   · simp only[gt_iff_lt,decide_eq_true_eq]at hp
     have hb:=Y0v (x:=y) (by omega)
     have e1:Int.fdiv (y:Int) (2^(min (Int.toNat 1) (IntKind.u32.bits)))=((y / 2:Nat):Int):=by
      have e2:(2:Int)^(min (Int.toNat 1) (IntKind.u32.bits))=2:=by decide
      rw[e2,Int.fdiv_eq_ediv_of_nonneg _ (by omega)]; omega
     simp only[]
     rw[e1,i64w (by omega) (by omega)]
     exact⟨⟨k+1,y / 2,rfl,by omega,by omega⟩,by show((y / 2:Nat):Int).toNat<(y:Int).toNat; omega⟩
   · simp only[gt_iff_lt,decide_eq_false_iff_not]at hp
     have hy:y=0:=by omega
     subst hy
     rw[X0f]at hk
     simp only[]
     rw[i64w (n:=32*_) (by omega) (by omega),i64w (by omega) (by omega)]
     congr 1
     omega
theorem c0c {V:View} {s:Sl} {a n:Nat} (hs:x00 V s a) (ha:wn a≤2^44) (hn:n≤2^44) :
 a00 Tryz.prog Q0k #[s.v,.int .i64 (n:Int)] V fun v V'=>∃r:Sl,v=r.v∧x00 V' r (a*2^n):=by
 have hsl:=hs.len
 have hs0:s.len=0→a=0:=fun h=>L05.1 (by simp only[wn]; omega)
 simp only[wn]at ha
 obtain⟨W,hW⟩:∃W,W=n / 32:=⟨_,rfl⟩
 obtain⟨R,hR⟩:∃R,R=2^(n%32):=⟨_,rfl⟩
 have hR1:R≤2147483648:=by rw[hR]; exact Nat.pow_le_pow_right (by omega) (show n%32≤31 by omega)
 obtain⟨Q,hQ⟩:∃Q,R*Q=4294967296:=⟨2^(32-n%32),by rw[hR,←Nat.pow_add,show n%32+(32-n%32)=32 by omega]⟩
 refine i0j s n V _
  (fun _ x _=>∃(i:Nat) (l:List Nat),x=f02.mk (i:Nat) (wv l)∧i≤s.len∧WB l∧l.length=s.len+W+1∧seg l 0 (i+W+1)=wval ((dig a).take i)*R*4294967296^W∧l.getD (i+W) 0<R)
  (fun _ x _=>(s.len-x.t6).toNat)
  ⟨fun h=>⟨_,rfl,by have h:(s.len:Int)=0:=(by simpa using h); have:=hs0 (by omega); subst this; rw[Nat.zero_mul]; exact x00.zero V⟩,fun _ => ?_⟩
 rw[td32,tm32,←hW,i64w (n:=(W:Int)) (by omega) (by omega),i64w (n:=(s.len:Int)+W) (by omega) (by omega),i64w (n:=(s.len:Int)+W+1) (by omega) (by omega),
  u64w (n:=((n%32:Nat):Int)) (by omega) (by omega),Int.toNat_natCast,O0u (show n%32≤64 by omega),←hR]
 have hN:Int.toNat ((s.len:Int)+W+1)=s.len+W+1:=by omega
 rw[hN]
 refine⟨⟨by omega,by omega,by omega,by omega⟩,⟨0,List.replicate (s.len+W+1) 0,?_,by omega,WB.zeros _,by simp,?_,?_⟩,?_⟩
 · rw[g05]; rfl
 · rw[q0l]; simp[wval]
 · have:(List.replicate (s.len+W+1) 0).getD (0+W) 0=0:=by simp only[List.getD,List.getElem?_replicate]; split<;>rfl
   rw[this,hR]; exact Nat.two_pow_pos _
 rintro _ V2 hle2 ⟨i,l,rfl,hi,hwb,hl,hval,hlt⟩
 refine⟨fun hp => ?_,fun hp b1 V4 hle4 hb1 => ?_⟩
 · simp only[decide_eq_true_eq]at hp
   have hai:=(y05 a).getD i
   have hW2:=hwb.getD (i+W)
   simp only[Int.toNat_natCast]
   rw[i64w (n:=(i:Int)+W) (by omega) (by omega),i64w (n:=(i:Int)+W+1) (by omega) (by omega),i64w (n:=(i:Int)+1) (by omega) (by omega)]
   have e1:Int.toNat ((i:Int)+W)=i+W:=by omega
   have e2:Int.toNat ((i:Int)+W+1)=i+W+1:=by omega
   rw[e1,e2,show 0+(i+W)*1=i+W by omega,show 0+(i+W+1)*1=i+W+1 by omega]
   refine⟨⟨by omega,hp,hs.isSome (by omega)⟩,_,(hs.le hle2).get (i:=(i:Nat)) (by omega) hp,by omega,⟨by omega,by omega⟩,((l.getD (i+W) 0:Nat):Int),U07 (by omega),⟨by omega,by omega⟩,by rw[H00]; omega,⟨by omega,by omega⟩,by simp only[List.length_set,H00]; omega,?_⟩
   simp only[Int.toNat_natCast]
   generalize hA:(dig a).getD i 0=A at *
   have hm:A*R≤4294967295*2147483648:=Nat.mul_le_mul (by omega) hR1
   rw[u64w (n:=(A:Int)) (by omega) (by omega),←Int.natCast_mul,u64w (n:=((A*R:Nat):Int)) (by omega) (by omega)]
   have e3:(2:Int)^(min (Int.toNat 32) (IntKind.u64.bits))=4294967296:=by decide
   rw[e3,Int.fdiv_eq_ediv_of_nonneg _ (by omega)]
   have e4:IntKind.u32.wrap (((A*R:Nat):Int) / 4294967296)=((A*R / 4294967296:Nat):Int):=by rw[u32w (by omega) (by omega)]; omega
   have e5:IntKind.u32.wrap ((A*R:Nat):Int)=((A*R%4294967296:Nat):Int):=by rw[u32m]; omega
   have e6:A*R%4294967296=(A%Q)*R:=by
    rw[←hQ,Nat.mul_comm A R,Nat.mul_mod_mul_left,Nat.mul_comm]
   have hhi:A*R / 4294967296<R:=by
    rw[Nat.div_lt_iff_lt_mul (by omega),Nat.mul_comm]
    exact Nat.mul_lt_mul_of_pos_left (by omega) (by rw[hR]; exact Nat.two_pow_pos _)
   have hlo:l.getD (i+W) 0+A*R%4294967296<4294967296:=by
    rw[e6]
    have h0:0<Q:=by
     rcases Nat.eq_zero_or_pos Q with h|h
     · subst h; simp at hQ
     · exact h
    have h1:A%Q+1≤Q:=Nat.mod_lt _ h0
    have h2:=Nat.mul_le_mul_right R h1
    rw[Nat.succ_mul,Nat.mul_comm Q R,hQ]at h2
    omega
   rw[e4,e5,C0w hW2 (Nat.mod_lt _ (by omega)),e6]
   have hor:(l.getD (i+W) 0 ||| A%Q*R)=l.getD (i+W) 0+A%Q*R:=by
    rw[hR]at hlt ⊢; exact o0v hlt
   rw[hor,←e6,u32w (by omega) (by omega),j05,j05]
   refine⟨⟨i+1,(l.set (i+W) (l.getD (i+W) 0+A*R%4294967296)).set (i+W+1) (A*R / 4294967296),rfl,by omega,(hwb.set (by omega)).set (by omega),by simpa using hl,?_,?_⟩,by show((s.len:Int)-((i:Int)+1)).toNat<((s.len:Int)-i).toNat; omega⟩
   · rw[show i+1+W+1=(i+W+1)+1 by omega,G02 (by omega) (by simp; omega)]
     have h1:=o0l (l:=l) (p:=i+W) (d:=l.getD (i+W) 0+A*R%4294967296) (j:=0) (k:=i+W+1) (by omega) (by omega) (by omega)
     rw[Nat.sub_zero,hval]at h1
     rw[O00,hA,Nat.pow_succ]
     have h2:A*R%4294967296+A*R / 4294967296*4294967296=A*R:=by omega
     have h3:=congrArg (·*4294967296^(i+W)) h2
     simp only[Nat.add_mul]at h1 h3 ⊢
     have h4:A*4294967296^i*R*4294967296^W=A*R*4294967296^(i+W):=by rw[Nat.pow_add]; grind
     have h5:∀q,q*(4294967296^(i+W)*4294967296)=q*4294967296*4294967296^(i+W):=by intro q; grind
     rw[h4,h5]
     omega
   · rw[m06,if_pos ⟨by omega,by simp; omega⟩]; exact hhi
 · simp only[decide_eq_false_iff_not]at hp
   have hi':i=s.len:=by omega
   subst hi'
   rw[f07 (by omega),s01 (l:=dig a) (by omega),z01]at hval
   have hw:P01 V4 (Sl.mk (some (Addr.mk b1 0 none)) (s.len+W+1) (s.len+W+1)) l:=P01.of_block hb1 (by omega) (Nat.le_refl _) hwb
   refine(l04 hw (by omega)).mono fun v V6 _ ⟨r,hv,hr⟩=>⟨r,hv,r,rfl,?_⟩
   rw[hval,Nat.mul_assoc,hR,hW,←q0f]at hr; exact hr
theorem d0h {V:View} {s:Sl} {a n:Nat} (hs:x00 V s a) (ha:wn a≤2^44) (hn:n≤2^44) :
 a00 Tryz.prog P0k #[s.v,.int .i64 (n:Int)] V fun v V'=>∃r:Sl,v=r.v∧x00 V' r (a / 2^n):=by
 have hsl:=hs.len
 have hwn:wn a=s.len:=by simp only[wn]; exact hsl.symm
 have haw:=z0e a
 rw[hwn]at ha haw
 obtain⟨W,hW⟩:∃W,W=n / 32:=⟨_,rfl⟩
 obtain⟨R,hR⟩:∃R,R=2^(n%32):=⟨_,rfl⟩
 have hR0:0<R:=by rw[hR]; exact Nat.two_pow_pos _
 obtain⟨Q,hQ⟩:∃Q,R*Q=4294967296:=⟨2^(32-n%32),by rw[hR,←Nat.pow_add,show n%32+(32-n%32)=32 by omega]⟩
 have hpow:2^n=4294967296^W*R:=by rw[hR,hW,Nat.mul_comm,←q0f]
 refine j0j s n V _
  (fun _ x _=>∃(i:Nat) (l:List Nat),x=C01.mk (i:Nat) (wv l)∧i≤s.len-W∧WB l∧l.length=s.len-W∧seg l 0 i=a / 2^n%4294967296^i)
  (fun _ x _=>(s.len-x.t6).toNat) ?_
 rw[td32,tm32,←hW,i64w (n:=(W:Int)) (by omega) (by omega)]
 refine⟨fun h=>⟨_,rfl,?_⟩,fun h => ?_⟩
 · simp only[ge_iff_le,decide_eq_true_eq]at h
   have:a / 2^n=0:=by
    refine Nat.div_eq_of_lt (Nat.lt_of_lt_of_le haw ?_)
    rw[hpow]
    have h1:4294967296^s.len≤4294967296^W:=Nat.pow_le_pow_right (by omega) (by omega)
    have:=Nat.mul_le_mul_left (4294967296^W) hR0
    omega
   rw[this]; exact x00.zero V
 simp only[ge_iff_le,decide_eq_false_iff_not]at h
 rw[i64w (n:=(s.len:Int)-W) (by omega) (by omega),u64w (n:=((n%32:Nat):Int)) (by omega) (by omega),Int.toNat_natCast,O0u (show n%32≤64 by omega),←hR]
 have hN:Int.toNat ((s.len:Int)-W)=s.len-W:=by omega
 rw[hN]
 refine⟨⟨by omega,by omega,by omega,by omega⟩,⟨0,List.replicate (s.len-W) 0,?_,by omega,WB.zeros _,by simp,?_⟩,?_⟩
 · rw[g05]; rfl
 · simp[H05,Nat.mod_one]
 rintro _ V2 hle2 ⟨i,l,rfl,hi,hwb,hl,hval⟩
 refine⟨fun hp => ?_,fun hp b1 V4 hle4 hb1 => ?_⟩
 · simp only[decide_eq_true_eq]at hp
   simp only[Int.toNat_natCast]
   rw[i64w (n:=(i:Int)+W) (by omega) (by omega),i64w (n:=(i:Int)+W+1) (by omega) (by omega),i64w (n:=(i:Int)+1) (by omega) (by omega)]
   have w1:=(y05 a).getD (W+i)
   have w2:=(y05 a).getD (W+i+1)
   have e1:Int.toNat ((i:Int)+W)=W+i:=by omega
   have e2:Int.toNat ((i:Int)+W+1)=W+i+1:=by omega
   have e3:(2:Int)^(min (Int.toNat 32) (IntKind.u64.bits))=4294967296:=by decide
   have word:=e0q (a:=a) (W:=W) (i:=i) hQ hR0
   rw[←hpow]at word
   have step:∀z:Nat,z=(dig a).getD (W+i) 0+4294967296*(dig a).getD (W+i+1) 0 →
    (∃(i':Nat) (l':List Nat),C01.mk ((i:Int)+1) ((wv l).set (0+i*1) (.int .u32 (IntKind.u32.wrap (Int.fdiv (z:Int) (R:Nat)))))=C01.mk (i':Nat) (wv l')∧i'≤s.len-W∧WB l'∧l'.length=s.len-W∧seg l' 0 i'=a / 2^n%4294967296^i'):=by
    intro z hz
    have ez:IntKind.u32.wrap (Int.fdiv (z:Int) (R:Nat))=((a / 2^n / 4294967296^i%4294967296:Nat):Int):=by
     rw[Int.fdiv_eq_ediv_of_nonneg _ (by omega),u32m,←word,←hz]; rfl
    rw[ez,show 0+i*1=i by omega,j05]
    refine⟨i+1,_,rfl,by omega,hwb.set (Nat.mod_lt _ (by omega)),by simpa using hl,?_⟩
    rw[G02 (by omega) (by omega),hval,Nat.pow_succ,Nat.mod_mul,Nat.mul_comm (4294967296^i)]
   have hme:((s.len:Int)-((i:Int)+1)).toNat<((s.len:Int)-i).toNat:=by omega
   have g1:=(hs.le hle2).get (i:=(i:Int)+W) (by omega) (by omega)
   rw[e1]at g1 ⊢
   refine⟨⟨by omega,by omega,hs.isSome (by omega)⟩,_,g1,fun hq => ?_,fun hq => ?_⟩
   · simp only[decide_eq_true_eq]at hq
     have g2:=(hs.le hle2).get (i:=(i:Int)+W+1) (by omega) (by omega)
     rw[e2]at g2 ⊢
     refine⟨⟨by omega,by omega,hs.isSome (by omega)⟩,_,g2,by omega,⟨by omega,by omega⟩,by rw[H00]; omega,?_⟩
     rw[e3,u64w (n:=(((dig a).getD (W+i) 0:Nat):Int)) (by omega) (by omega),u64w (n:=(((dig a).getD (W+i+1) 0:Nat):Int)) (by omega) (by omega),u64w (n:=(((dig a).getD (W+i+1) 0:Nat):Int)*4294967296) (by omega) (by omega),
      show(((dig a).getD (W+i+1) 0:Nat):Int)*4294967296=(((dig a).getD (W+i+1) 0*4294967296:Nat):Int)by omega,B0w w1 w2,u64w (by omega) (by omega)]
     exact⟨step _ (by omega),hme⟩
   · simp only[decide_eq_false_iff_not]at hq
     refine⟨by omega,⟨by omega,by omega⟩,by rw[H00]; omega,?_⟩
     rw[u64w (n:=(((dig a).getD (W+i) 0:Nat):Int)) (by omega) (by omega)]
     have h0:(dig a).getD (W+i+1) 0=0:=by simp only[List.getD]; rw[List.getElem?_eq_none (by omega)]; rfl
     exact⟨step _ (by omega),hme⟩
 · simp only[decide_eq_false_iff_not]at hp
   have hi':i=s.len-W:=by omega
   subst hi'
   have hw:P01 V4 (Sl.mk (some (Addr.mk b1 0 none)) (s.len-W) (s.len-W)) l:=P01.of_block hb1 (by omega) (Nat.le_refl _) hwb
   refine(l04 hw (by omega)).mono fun v V6 _ ⟨r,hv,hr⟩=>⟨r,hv,r,rfl,?_⟩
   rw[f07 (by omega)]at hval
   have hlt:a / 2^n<4294967296^(s.len-W):=by
    rw[hpow,←Nat.div_div_eq_div_mul]
    refine Nat.lt_of_le_of_lt (Nat.div_le_self _ _) ?_
    rw[Nat.div_lt_iff_lt_mul (Nat.pow_pos (by omega)),←Nat.pow_add,show s.len-W+W=s.len by omega]
    exact haw
   rw[hval,Nat.mod_eq_of_lt hlt]at hr; exact hr
theorem w0x (P:Nat) (h:P<18446744073709551616):BitVec.toNat ((BitVec.ofInt IntKind.u64.bits (P:Int)) &&& (BitVec.ofInt IntKind.u64.bits 4294967295))=P%4294967296:=by
 rw[BitVec.toNat_and]
 have e1:(BitVec.ofInt IntKind.u64.bits (P:Int)).toNat=P:=of64 h
 have e2:(BitVec.ofInt IntKind.u64.bits 4294967295).toNat=2^32-1:=by decide
 rw[e1,e2,Nat.and_two_pow_sub_one_eq_mod]
structure K0n (X vN n m j g i cr bo:Nat) (u qd u0:List Nat):Prop where
 div:DivI X vN n m (j+1) u0 qd
 n2:2≤n
 nm:n≤m
 wn:wn vN=n
 g32:g<4294967296
 ge:seg u0 j (n+1) / vN≤g
 gl:(g-1)*vN≤seg u0 j (n+1)
 i_le:i≤n
 wu:WB u
 lu:u.length=m
 cr32:cr<4294967296
 bo1:bo≤1
 out:∀p,p<j∨j+i≤p→u.getD p 0=u0.getD p 0
 val:seg u j i+g*wval ((dig vN).take i)=seg u0 j i+(cr+bo)*4294967296^i
structure K0l (X vN n m j g k cr:Nat) (u qd u0 l':List Nat):Prop where
 div:DivI X vN n m (j+1) u0 qd
 n2:2≤n
 nm:n≤m
 wn:wn vN=n
 wl:WB l'
 ll:l'.length=m
 out:∀i,i<j∨j+n<i→l'.getD i 0=u0.getD i 0
 eq:seg l' j (n+1)+g*vN=seg u0 j (n+1)+4294967296^(n+1)
 g32:g<4294967296
 ge:seg u0 j (n+1) / vN≤g
 gl:(g-1)*vN≤seg u0 j (n+1)
 k_le:k≤n
 cr1:cr≤1
 wu:WB u
 lu:u.length=m
 out2:∀i,i<j∨j+k≤i→u.getD i 0=l'.getD i 0
 val:seg u j k+cr*4294967296^k=seg l' j k+seg (dig vN) 0 k
theorem K0n.jn {X vN n m j g i cr bo:Nat} {u qd u0:List Nat} (h:K0n X vN n m j g i cr bo u qd u0):j+n<m:=by
 have:=h.div.jl
 have:=h.nm
 omega
theorem K0l.jn {X vN n m j g i cr:Nat} {u qd u0 l':List Nat} (h:K0l X vN n m j g i cr u qd u0 l'):j+n<m:=by
 have:=h.div.jl
 have:=h.nm
 omega
theorem t0v {vN n:Nat} (h:wn vN=n) (hn:2≤n):0<vN:=by
 rcases Nat.eq_zero_or_pos vN with h0|h0
 · subst h0; rw[M09]at h; omega
 · exact h0
theorem K0n.step {X vN n m j g i cr bo:Nat} {u qd u0:List Nat} (h:K0n X vN n m j g i cr bo u qd u0) (hi:i<n) :
 ∃low br c:Nat,IntKind.u32.wrap (IntKind.u64.wrap ((IntKind.u64.wrap ((IntKind.u64.wrap ((u.getD (j+i) 0:Nat):Int))-(IntKind.u64.wrap ((BitVec.toNat ((BitVec.ofInt IntKind.u64.bits (IntKind.u64.wrap ((IntKind.u64.wrap ((g:Int)*(IntKind.u64.wrap (((dig vN).getD i 0:Nat):Int))))+(cr:Int)))) &&& (BitVec.ofInt IntKind.u64.bits 4294967295)):Nat):Int))))-(bo:Int)))=(low:Int) ∧
  Int.fdiv (IntKind.u64.wrap ((IntKind.u64.wrap ((IntKind.u64.wrap ((u.getD (j+i) 0:Nat):Int))-(IntKind.u64.wrap ((BitVec.toNat ((BitVec.ofInt IntKind.u64.bits (IntKind.u64.wrap ((IntKind.u64.wrap ((g:Int)*(IntKind.u64.wrap (((dig vN).getD i 0:Nat):Int))))+(cr:Int)))) &&& (BitVec.ofInt IntKind.u64.bits 4294967295)):Nat):Int))))-(bo:Int))) 9223372036854775808=(br:Int) ∧
  Int.fdiv (IntKind.u64.wrap ((IntKind.u64.wrap ((g:Int)*(IntKind.u64.wrap (((dig vN).getD i 0:Nat):Int))))+(cr:Int))) 4294967296=(c:Int) ∧
  K0n X vN n m j g (i+1) c br (u.set (j+i) low) qd u0:=by
 have hjn:=h.jn
 have hvi:=(y05 vN).getD i
 have hui:=h.wu.getD (j+i)
 have hlu:=h.lu
 have hc:=h.cr32
 have hm':=p0f h.g32 hvi
 have hu0:u0.getD (j+i) 0=u.getD (j+i) 0:=(h.out (j+i) (by omega)).symm
 generalize hA:(dig vN).getD i 0=A at *
 generalize hU:u.getD (j+i) 0=U at *
 obtain⟨P,hP⟩:∃P,P=g*A+cr:=⟨_,rfl⟩
 rw[u64w (n:=(A:Int)) (by omega) (by omega),←Int.natCast_mul,u64w (n:=((g*A:Nat):Int)) (by omega) (by omega),u64w (n:=((g*A:Nat):Int)+cr) (by omega) (by omega),
  show((g*A:Nat):Int)+cr=(P:Nat)by omega,w0x P (by omega),u64w (n:=((P%4294967296:Nat):Int)) (by omega) (by omega),u64w (n:=(U:Int)) (by omega) (by omega),Int.fdiv_eq_ediv_of_nonneg (P:Int) (by omega),
  show(P:Int) / 4294967296=((P / 4294967296:Nat):Int)by omega]
 obtain⟨low,br,h1,h2,h3,h4,h5⟩:=J0b hui (Nat.mod_lt P (by omega:0<4294967296)) h.bo1
 refine⟨low,br,_,h4,h5,rfl,h.div,h.n2,h.nm,h.wn,h.g32,h.ge,h.gl,hi,h.wu.set h1,by simpa using hlu,by omega,h2,?_,?_⟩
 · intro p hp
   rw[m06,if_neg (by omega)]; exact h.out p (by omega)
 · have hval:=h.val
   rw[G02 rfl (by omega),D02,O00,hA,hu0,Nat.pow_succ]
   have h6:low+g*A+cr+bo=U+(P / 4294967296+br)*4294967296:=by
    have:=Nat.div_add_mod P 4294967296
    omega
   have h7:=congrArg (·*4294967296^i) h6
   simp only[Nat.add_mul]at h7 hval ⊢
   have h8:g*(wval (List.take i (dig vN))+A*4294967296^i)=g*wval (List.take i (dig vN))+g*A*4294967296^i:=by rw[Nat.mul_add,Nat.mul_assoc]
   have h9:∀z,z*(4294967296^i*4294967296)=z*4294967296*4294967296^i:=by intro z; grind
   rw[h8,h9,h9]
   omega
theorem K0n.last {X vN n m j g cr bo:Nat} {u qd u0:List Nat} (h:K0n X vN n m j g n cr bo u qd u0) :
 ∃low br:Nat,IntKind.u32.wrap (IntKind.u64.wrap ((IntKind.u64.wrap ((IntKind.u64.wrap ((u.getD (j+n) 0:Nat):Int))-(cr:Int)))-(bo:Int)))=(low:Int) ∧
  Int.fdiv (IntKind.u64.wrap ((IntKind.u64.wrap ((IntKind.u64.wrap ((u.getD (j+n) 0:Nat):Int))-(cr:Int)))-(bo:Int))) 9223372036854775808=(br:Int)∧(u.set (j+n) low).length=m ∧
  (br=1→K0l X vN n m j g 0 0 (u.set (j+n) low) qd u0 (u.set (j+n) low)∧0<g)∧(br≠1→DivI X vN n m j (u.set (j+n) low) (qd.set j g)):=by
 have hjn:=h.jn
 have hui:=h.wu.getD (j+n)
 have hlu:=h.lu
 have hu0:u0.getD (j+n) 0=u.getD (j+n) 0:=(h.out (j+n) (by omega)).symm
 generalize hU:u.getD (j+n) 0=U at *
 obtain⟨low,br,h1,h2,h3,h4,h5⟩:=J0b hui h.cr32 h.bo1
 rw[u64w (n:=(U:Int)) (by omega) (by omega)]
 refine⟨low,br,h4,h5,?_⟩
 obtain⟨l',hl'⟩:∃l',l'=u.set (j+n) low:=⟨_,rfl⟩
 rw[←hl']
 have hwl':WB l':=by rw[hl']; exact h.wu.set h1
 have hll':l'.length=m:=by rw[hl']; simpa using hlu
 have hout:∀p,p<j∨j+n<p→l'.getD p 0=u0.getD p 0:=by
  intro p hp
  rw[hl',m06,if_neg (by omega)]; exact h.out p (by omega)
 have hwv:=h.wn
 have hvpos:=t0v hwv h.n2
 have heq:seg l' j (n+1)+g*vN=seg u0 j (n+1)+br*4294967296^(n+1):=by
  have hval:=h.val
  rw[s01 (l:=dig vN) (Nat.le_of_eq hwv),z01]at hval
  rw[hl',G02 rfl (by omega),D02,hu0,Nat.pow_succ]
  have h7:=congrArg (·*4294967296^n) h3
  simp only[Nat.add_mul]at h7 hval
  have h9:br*(4294967296^n*4294967296)=br*4294967296*4294967296^n:=by grind
  rw[h9]
  omega
 have hlt1:=X0b hwl' j (n+1)
 refine⟨hll',fun hb => ?_,fun hb => ?_⟩
 · rw[hb,Nat.one_mul]at heq
   refine⟨⟨h.div,h.n2,h.nm,hwv,hwl',hll',hout,heq,h.g32,h.ge,h.gl,by omega,by omega,hwl',hll',fun _ _=>rfl,by simp[H05]⟩,?_⟩
   rcases Nat.eq_zero_or_pos g with h0|h0
   · exfalso; subst h0; omega
   · exact h0
 · have hb0:br=0:=by omega
   rw[hb0,Nat.zero_mul,Nat.add_zero]at heq
   have G9:=u0l h.div.wu h.n2 hwv h.div.lt
   have hcase:=L0i G9 h.ge h.gl
   have hvlt:vN<4294967296^n:=by rw[←hwv]; exact z0e vN
   obtain⟨W9,hW9⟩:∃W9,W9=seg u0 j (n+1):=⟨_,rfl⟩
   rw[←hW9]at hcase heq
   have hWm:W9%vN<vN:=Nat.mod_lt _ hvpos
   have hWd:=Nat.div_add_mod W9 vN
   have hgq:g=W9 / vN:=by
    rcases hcase with h|h
    · exact h
    · exfalso; rw[h,Nat.succ_mul,Nat.mul_comm]at heq; omega
   have hgm:g*vN=vN*(W9 / vN):=by rw[hgq,Nat.mul_comm]
   have hR:seg l' j (n+1)=W9%vN:=by omega
   refine h.div.next h.nm (R:=W9%vN) (by rw[←hW9]; omega) hWm h.g32 hwl' hll' ?_ (E0l hR (by omega))
   exact D0l fun i _ hi=>hout i (by omega)
theorem K0l.step {X vN n m j g k cr:Nat} {u qd u0 l':List Nat} (h:K0l X vN n m j g k cr u qd u0 l') (hk:k<n) :
 ∃low c:Nat,IntKind.u32.wrap (IntKind.u64.wrap ((IntKind.u64.wrap ((IntKind.u64.wrap ((u.getD (j+k) 0:Nat):Int))+(IntKind.u64.wrap (((dig vN).getD k 0:Nat):Int))))+(cr:Int)))=(low:Int) ∧
  Int.fdiv (IntKind.u64.wrap ((IntKind.u64.wrap ((IntKind.u64.wrap ((u.getD (j+k) 0:Nat):Int))+(IntKind.u64.wrap (((dig vN).getD k 0:Nat):Int))))+(cr:Int))) 4294967296=(c:Int) ∧
  K0l X vN n m j g (k+1) c (u.set (j+k) low) qd u0 l':=by
 have hjn:=h.jn
 have hA:=(y05 vN).getD k
 have hU:=h.wu.getD (j+k)
 have hlu:=h.lu
 have hcr:=h.cr1
 have hL:l'.getD (j+k) 0=u.getD (j+k) 0:=(h.out2 (j+k) (by omega)).symm
 generalize hA':(dig vN).getD k 0=A at *
 generalize hU':u.getD (j+k) 0=U at *
 rw[u64w (n:=(U:Int)) (by omega) (by omega),u64w (n:=(A:Int)) (by omega) (by omega),u64w (n:=(U:Int)+A) (by omega) (by omega),u64w (n:=(U:Int)+A+cr) (by omega) (by omega),Int.fdiv_eq_ediv_of_nonneg _ (by omega)]
 have K2:IntKind.u32.wrap ((U:Int)+A+cr)=(((cr+U+A)%4294967296:Nat):Int):=by rw[u32m]; omega
 have K3:((U:Int)+A+cr) / 4294967296=(((cr+U+A) / 4294967296:Nat):Int):=by omega
 refine⟨_,_,K2,K3,h.div,h.n2,h.nm,h.wn,h.wl,h.ll,h.out,h.eq,h.g32,h.ge,h.gl,hk,by omega,h.wu.set (by omega),by simpa using hlu,?_,?_⟩
 · intro i hi; rw[m06,if_neg (by omega)]; exact h.out2 i (by omega)
 · have hseg:=h.val
   rw[G02 rfl (by omega),D02,D02,Nat.zero_add,hA',hL,Nat.pow_succ]
   have h6:(cr+U+A)%4294967296+(cr+U+A) / 4294967296*4294967296=cr+U+A:=by omega
   have h7:=congrArg (·*4294967296^k) h6
   simp only[Nat.add_mul]at h7 hseg ⊢
   have h9:∀z,z*(4294967296^k*4294967296)=z*4294967296*4294967296^k:=by intro z; grind
   rw[h9]
   omega
theorem K0l.last {X vN n m j g cr:Nat} {u qd u0 l':List Nat} (h:K0l X vN n m j g n cr u qd u0 l') :
 ∃low:Nat,IntKind.u32.wrap (((u.getD (j+n) 0:Nat):Int)+IntKind.u32.wrap (cr:Int))=(low:Int)∧DivI X vN n m j (u.set (j+n) low) (qd.set j (g-1)):=by
 have hjn:=h.jn
 have hT:=h.wu.getD (j+n)
 have hcr:=h.cr1
 have hlu:=h.lu
 have hL:l'.getD (j+n) 0=u.getD (j+n) 0:=(h.out2 (j+n) (by omega)).symm
 generalize hT':u.getD (j+n) 0=T at *
 have K1:IntKind.u32.wrap ((T:Int)+IntKind.u32.wrap (cr:Int))=(((T+cr)%4294967296:Nat):Int):=by rw[u32w (n:=(cr:Int)) (by omega) (by omega),u32m]; omega
 refine⟨_,K1,?_⟩
 have hwv:=h.wn
 have hvpos:=t0v hwv h.n2
 have hvlt:vN<4294967296^n:=by rw[←hwv]; exact z0e vN
 have hlt1:=X0b h.wl j (n+1)
 have heq:=h.eq
 have hge:=h.ge
 have hgl:=h.gl
 have hW3:∃R,seg u0 j (n+1)=R+(g-1)*vN∧R<vN∧seg l' j (n+1)+vN=R+4294967296^(n+1):=by
  obtain⟨W3,hW3⟩:∃W3,W3=seg u0 j (n+1):=⟨_,rfl⟩
  rw[←hW3]at heq hge hgl ⊢
  have h2:W3 / vN<g:=by
   rw[Nat.div_lt_iff_lt_mul hvpos]; omega
  have h3:g-1=W3 / vN:=by
   have:=(Nat.le_div_iff_mul_le hvpos).2 hgl
   omega
  have h4:=Nat.div_add_mod' W3 vN
  have h5:W3%vN<vN:=Nat.mod_lt _ hvpos
  refine⟨W3%vN,by rw[h3]; omega,h5,?_⟩
  have h6:g*vN=(g-1)*vN+vN:=by
   obtain⟨q,rfl⟩:∃q,g=q+1:=⟨g-1,by omega⟩
   rw[Nat.succ_mul,Nat.add_sub_cancel]
  rw[h3]at h6
  omega
 obtain⟨R,hR1,hR2,hR3⟩:=hW3
 have hfin:seg (u.set (j+n) ((T+cr)%4294967296)) j (n+1)=R:=by
  rw[G02 rfl (by omega)]
  rw[D02,hL]at hR3
  have hseg:=h.val
  rw[e0p vN (Nat.le_of_eq hwv)]at hseg
  exact g0q (X0b h.wu j n) (by omega) hT hcr hR3 hseg
 have hg1:g-1<4294967296:=by have:=h.g32; omega
 refine h.div.next h.nm hR1 hR2 hg1 (h.wu.set (by omega)) (by simpa using hlu) ?_ (E0l hfin (by omega))
 rw[Z07 (by omega)]
 exact D0l fun i _ hi=>(h.out2 i (by omega)).trans (h.out i (by omega))
