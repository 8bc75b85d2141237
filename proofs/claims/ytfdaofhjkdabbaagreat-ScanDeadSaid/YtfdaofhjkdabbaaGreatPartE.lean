/- Part. -/
import Derived.Test.YtfdaofhjkdabbaaGreatPartD
import Derived.Laws.StructEq
namespace Go.Proofs.YtfdaofhjkdabbaaGreat
open Go Go.Vc Go.Proofs
open Go.IntKind (i64 u64 u32 u8)
theorem n14(P:Nat)(h:P<18446744073709551616):BitVec.toNat ((BitVec.ofInt u64.bits (P:Int)) &&& (BitVec.ofInt u64.bits 4294967295))=P%4294967296:=by
 rw[BitVec.toNat_and]
 have e1:(BitVec.ofInt u64.bits (P:Int)).toNat=P:=of64 h
 have e2:(BitVec.ofInt u64.bits 4294967295).toNat=2^32-1:=by decide
 rw[e1,e2,Nat.and_two_pow_sub_one_eq_mod]
structure D0q (X vN n m j g i cr bo:Nat) (u qd u0:List Nat):Prop where
 div:DivI X vN n m (j+1) u0 qd
 n2:2<=n
 nm:n<=m
 wn:wn vN=n
 g32:g<4294967296
 ge:seg u0 j (n+1) / vN<=g
 gl:(g-1)*vN<=seg u0 j (n+1)
 i_le:i<=n
 wu:WB u
 lu:u.length=m
 cr32:cr<4294967296
 bo1:bo<=1
 out:∀p,p<j\/j+i<=p->u.getD p 0=u0.getD p 0
 val:seg u j i+g*wval ((dig vN).take i)=seg u0 j i+(cr+bo)*4294967296^i
structure S0n (X vN n m j g k cr:Nat) (u qd u0 l':List Nat):Prop where
 div:DivI X vN n m (j+1) u0 qd
 n2:2<=n
 nm:n<=m
 wn:wn vN=n
 wl:WB l'
 ll:l'.length=m
 out:∀i,i<j\/j+n<i->l'.getD i 0=u0.getD i 0
 eq:seg l' j (n+1)+g*vN=seg u0 j (n+1)+4294967296^(n+1)
 g32:g<4294967296
 ge:seg u0 j (n+1) / vN<=g
 gl:(g-1)*vN<=seg u0 j (n+1)
 k_le:k<=n
 cr1:cr<=1
 wu:WB u
 lu:u.length=m
 out2:∀i,i<j\/j+k<=i->u.getD i 0=l'.getD i 0
 val:seg u j k+cr*4294967296^k=seg l' j k+seg (dig vN) 0 k
theorem D0q.jn{X vN n m j g i cr bo:Nat}{u qd u0:List Nat}(h:D0q X vN n m j g i cr bo u qd u0):j+n<m:=by
 have:=h.div.jl
 have:=h.nm
 omega
theorem S0n.jn{X vN n m j g i cr:Nat}{u qd u0 l':List Nat}(h:S0n X vN n m j g i cr u qd u0 l'):j+n<m:=by
 have:=h.div.jl
 have:=h.nm
 omega
theorem g11{vN n:Nat}(h:wn vN=n)(hn:2<=n):0<vN:=by
 rcases Nat.eq_zero_or_pos vN with h0|h0
 . subst h0; rw[w06]at h; omega
 . exact h0
theorem D0q.step{X vN n m j g i cr bo:Nat}{u qd u0:List Nat}(h:D0q X vN n m j g i cr bo u qd u0)(hi:i<n) :
 ∃low br c:Nat,u32.wrap (u64.wrap ((u64.wrap ((u64.wrap ((u.getD (j+i) 0:Nat):Int))-(u64.wrap ((BitVec.toNat ((BitVec.ofInt u64.bits (u64.wrap ((u64.wrap ((g:Int)*(u64.wrap (((dig vN).getD i 0:Nat):Int))))+(cr:Int)))) &&& (BitVec.ofInt u64.bits 4294967295)):Nat):Int))))-(bo:Int)))=(low:Int) /\
  Int.fdiv (u64.wrap ((u64.wrap ((u64.wrap ((u.getD (j+i) 0:Nat):Int))-(u64.wrap ((BitVec.toNat ((BitVec.ofInt u64.bits (u64.wrap ((u64.wrap ((g:Int)*(u64.wrap (((dig vN).getD i 0:Nat):Int))))+(cr:Int)))) &&& (BitVec.ofInt u64.bits 4294967295)):Nat):Int))))-(bo:Int))) 9223372036854775808=(br:Int) /\
  Int.fdiv (u64.wrap ((u64.wrap ((g:Int)*(u64.wrap (((dig vN).getD i 0:Nat):Int))))+(cr:Int))) 4294967296=(c:Int) /\
  D0q X vN n m j g (i+1) c br (u.set (j+i) low) qd u0:=by
 have hjn:=h.jn
 have hvi:=(X03 vN).getD i
 have hui:=h.wu.getD (j+i)
 have hlu:=h.lu
 have hc:=h.cr32
 have hm':=G0f h.g32 hvi
 have hu0:u0.getD (j+i) 0=u.getD (j+i) 0:=(h.out (j+i) (by omega)).symm
 generalize hA:(dig vN).getD i 0=A at *
 generalize hU:u.getD (j+i) 0=U at *
 obtain⟨P,hP⟩:∃P,P=g*A+cr:=⟨_,rfl⟩
 rw[u64w (n:=(A:Int)) (by omega) (by omega),<-Int.natCast_mul,u64w (n:=((g*A:Nat):Int)) (by omega) (by omega),u64w (n:=((g*A:Nat):Int)+cr) (by omega) (by omega),
  show((g*A:Nat):Int)+cr=(P:Nat)by omega,n14 P (by omega),u64w (n:=((P%4294967296:Nat):Int)) (by omega) (by omega),u64w (n:=(U:Int)) (by omega) (by omega),Int.fdiv_eq_ediv_of_nonneg (P:Int) (by omega),
  show(P:Int) / 4294967296=((P / 4294967296:Nat):Int)by omega]
 obtain⟨low,br,h1,h2,h3,h4,h5⟩:=F0b hui (Nat.mod_lt P (by omega:0<4294967296)) h.bo1
 refine⟨low,br,_,h4,h5,rfl,h.div,h.n2,h.nm,h.wn,h.g32,h.ge,h.gl,hi,h.wu.set h1,by simpa using hlu,by omega,h2,?_,?_⟩
 . intro p hp
   rw[U05,if_neg (by omega)]; exact h.out p (by omega)
 . have hval:=h.val
   rw[i02 rfl (by omega),e02,C00,hA,hu0,Nat.pow_succ]
   have h6:low+g*A+cr+bo=U+(P / 4294967296+br)*4294967296:=by
    have:=Nat.div_add_mod P 4294967296
    omega
   have h7:=congrArg (·*4294967296^i) h6
   simp only[Nat.add_mul]at h7 hval ⊢
   have h8:g*(wval (List.take i (dig vN))+A*4294967296^i)=g*wval (List.take i (dig vN))+g*A*4294967296^i:=by rw[Nat.mul_add,Nat.mul_assoc]
   have h9:∀z,z*(4294967296^i*4294967296)=z*4294967296*4294967296^i:=by intro z; grind
   rw[h8,h9,h9]
   omega
theorem D0q.last{X vN n m j g cr bo:Nat}{u qd u0:List Nat}(h:D0q X vN n m j g n cr bo u qd u0) :
 ∃low br:Nat,u32.wrap (u64.wrap ((u64.wrap ((u64.wrap ((u.getD (j+n) 0:Nat):Int))-(cr:Int)))-(bo:Int)))=(low:Int) /\
  Int.fdiv (u64.wrap ((u64.wrap ((u64.wrap ((u.getD (j+n) 0:Nat):Int))-(cr:Int)))-(bo:Int))) 9223372036854775808=(br:Int)/\(u.set (j+n) low).length=m /\
  (br=1->S0n X vN n m j g 0 0 (u.set (j+n) low) qd u0 (u.set (j+n) low)/\0<g)/\(br≠1->DivI X vN n m j (u.set (j+n) low) (qd.set j g)):=by
 have hjn:=h.jn
 have hui:=h.wu.getD (j+n)
 have hlu:=h.lu
 have hu0:u0.getD (j+n) 0=u.getD (j+n) 0:=(h.out (j+n) (by omega)).symm
 generalize hU:u.getD (j+n) 0=U at *
 obtain⟨low,br,h1,h2,h3,h4,h5⟩:=F0b hui h.cr32 h.bo1
 rw[u64w (n:=(U:Int)) (by omega) (by omega)]
 refine⟨low,br,h4,h5,?_⟩
 obtain⟨l',hl'⟩:∃l',l'=u.set (j+n) low:=⟨_,rfl⟩
 rw[<-hl']
 have hwl':WB l':=by rw[hl']; exact h.wu.set h1
 have hll':l'.length=m:=by rw[hl']; simpa using hlu
 have hout:∀p,p<j\/j+n<p->l'.getD p 0=u0.getD p 0:=by
  intro p hp
  rw[hl',U05,if_neg (by omega)]; exact h.out p (by omega)
 have hwv:=h.wn
 have hvpos:=g11 hwv h.n2
 have heq:seg l' j (n+1)+g*vN=seg u0 j (n+1)+br*4294967296^(n+1):=by
  have hval:=h.val
  rw[d01 (l:=dig vN) (Nat.le_of_eq hwv),l01]at hval
  rw[hl',i02 rfl (by omega),e02,hu0,Nat.pow_succ]
  have h7:=congrArg (·*4294967296^n) h3
  simp only[Nat.add_mul]at h7 hval
  have h9:br*(4294967296^n*4294967296)=br*4294967296*4294967296^n:=by grind
  rw[h9]
  omega
 have hlt1:=S0b hwl' j (n+1)
 refine⟨hll',λhb => ?_,λhb => ?_⟩
 . rw[hb,Nat.one_mul]at heq
   refine⟨⟨h.div,h.n2,h.nm,hwv,hwl',hll',hout,heq,h.g32,h.ge,h.gl,by omega,by omega,hwl',hll',λ_ _=>rfl,by simp[o05]⟩,?_⟩
   rcases Nat.eq_zero_or_pos g with h0|h0
   . exfalso; subst h0; omega
   . exact h0
 . have hb0:br=0:=by omega
   rw[hb0,Nat.zero_mul,Nat.add_zero]at heq
   have G9:=q0n h.div.wu h.n2 hwv h.div.lt
   have hcase:=O0j G9 h.ge h.gl
   have hvlt:vN<4294967296^n:=by rw[<-hwv]; exact x0e vN
   obtain⟨W9,hW9⟩:∃W9,W9=seg u0 j (n+1):=⟨_,rfl⟩
   rw[<-hW9]at hcase heq
   have hWm:W9%vN<vN:=Nat.mod_lt _ hvpos
   have hWd:=Nat.div_add_mod W9 vN
   have hgq:g=W9 / vN:=by
    rcases hcase with h|h
    . exact h
    . exfalso; rw[h,Nat.succ_mul,Nat.mul_comm]at heq; omega
   have hgm:g*vN=vN*(W9 / vN):=by rw[hgq,Nat.mul_comm]
   have hR:seg l' j (n+1)=W9%vN:=by omega
   refine h.div.next h.nm (R:=W9%vN) (by rw[<-hW9]; omega) hWm h.g32 hwl' hll' ?_ (N0n hR (by omega))
   exact M0n λi _ hi=>hout i (by omega)
theorem S0n.step{X vN n m j g k cr:Nat}{u qd u0 l':List Nat}(h:S0n X vN n m j g k cr u qd u0 l')(hk:k<n) :
 ∃low c:Nat,u32.wrap (u64.wrap ((u64.wrap ((u64.wrap ((u.getD (j+k) 0:Nat):Int))+(u64.wrap (((dig vN).getD k 0:Nat):Int))))+(cr:Int)))=(low:Int) /\
  Int.fdiv (u64.wrap ((u64.wrap ((u64.wrap ((u.getD (j+k) 0:Nat):Int))+(u64.wrap (((dig vN).getD k 0:Nat):Int))))+(cr:Int))) 4294967296=(c:Int) /\
  S0n X vN n m j g (k+1) c (u.set (j+k) low) qd u0 l':=by
 have hjn:=h.jn
 have hA:=(X03 vN).getD k
 have hU:=h.wu.getD (j+k)
 have hlu:=h.lu
 have hcr:=h.cr1
 have hL:l'.getD (j+k) 0=u.getD (j+k) 0:=(h.out2 (j+k) (by omega)).symm
 generalize hA':(dig vN).getD k 0=A at *
 generalize hU':u.getD (j+k) 0=U at *
 rw[u64w (n:=(U:Int)) (by omega) (by omega),u64w (n:=(A:Int)) (by omega) (by omega),u64w (n:=(U:Int)+A) (by omega) (by omega),u64w (n:=(U:Int)+A+cr) (by omega) (by omega),Int.fdiv_eq_ediv_of_nonneg _ (by omega)]
 have K2:u32.wrap ((U:Int)+A+cr)=(((cr+U+A)%4294967296:Nat):Int):=by rw[u32m]; omega
 have K3:((U:Int)+A+cr) / 4294967296=(((cr+U+A) / 4294967296:Nat):Int):=by omega
 refine⟨_,_,K2,K3,h.div,h.n2,h.nm,h.wn,h.wl,h.ll,h.out,h.eq,h.g32,h.ge,h.gl,hk,by omega,h.wu.set (by omega),by simpa using hlu,?_,?_⟩
 . intro i hi; rw[U05,if_neg (by omega)]; exact h.out2 i (by omega)
 . have hseg:=h.val
   rw[i02 rfl (by omega),e02,e02,Nat.zero_add,hA',hL,Nat.pow_succ]
   have h6:(cr+U+A)%4294967296+(cr+U+A) / 4294967296*4294967296=cr+U+A:=by omega
   have h7:=congrArg (·*4294967296^k) h6
   simp only[Nat.add_mul]at h7 hseg ⊢
   have h9:∀z,z*(4294967296^k*4294967296)=z*4294967296*4294967296^k:=by intro z; grind
   rw[h9]
   omega
theorem S0n.last{X vN n m j g cr:Nat}{u qd u0 l':List Nat}(h:S0n X vN n m j g n cr u qd u0 l') :
 ∃low:Nat,u32.wrap (((u.getD (j+n) 0:Nat):Int)+u32.wrap (cr:Int))=(low:Int)/\DivI X vN n m j (u.set (j+n) low) (qd.set j (g-1)):=by
 have hjn:=h.jn
 have hT:=h.wu.getD (j+n)
 have hcr:=h.cr1
 have hlu:=h.lu
 have hL:l'.getD (j+n) 0=u.getD (j+n) 0:=(h.out2 (j+n) (by omega)).symm
 generalize hT':u.getD (j+n) 0=T at *
 have K1:u32.wrap ((T:Int)+u32.wrap (cr:Int))=(((T+cr)%4294967296:Nat):Int):=by rw[u32w (n:=(cr:Int)) (by omega) (by omega),u32m]; omega
 refine⟨_,K1,?_⟩
 have hwv:=h.wn
 have hvpos:=g11 hwv h.n2
 have hvlt:vN<4294967296^n:=by rw[<-hwv]; exact x0e vN
 have hlt1:=S0b h.wl j (n+1)
 have heq:=h.eq
 have hge:=h.ge
 have hgl:=h.gl
 have hW3:∃R,seg u0 j (n+1)=R+(g-1)*vN/\R<vN/\seg l' j (n+1)+vN=R+4294967296^(n+1):=by
  obtain⟨W3,hW3⟩:∃W3,W3=seg u0 j (n+1):=⟨_,rfl⟩
  rw[<-hW3]at heq hge hgl ⊢
  have h2:W3 / vN<g:=by
   rw[Nat.div_lt_iff_lt_mul hvpos]; omega
  have h3:g-1=W3 / vN:=by
   have:=(Nat.le_div_iff_mul_le hvpos).2 hgl
   omega
  have h4:=Nat.div_add_mod' W3 vN
  have h5:W3%vN<vN:=Nat.mod_lt _ hvpos
  refine⟨W3%vN,by rw[h3]; omega,h5,?_⟩
  have h6:g*vN=(g-1)*vN+vN:=by
   obtain⟨q,rfl⟩:∃q,g=q+1:=⟨g-1,by omega⟩
   rw[Nat.succ_mul,Nat.add_sub_cancel]
  rw[h3]at h6
  omega
 obtain⟨R,hR1,hR2,hR3⟩:=hW3
 have hfin:seg (u.set (j+n) ((T+cr)%4294967296)) j (n+1)=R:=by
  rw[i02 rfl (by omega)]
  rw[e02,hL]at hR3
  have hseg:=h.val
  rw[E0s vN (Nat.le_of_eq hwv)]at hseg
  exact L0t (S0b h.wu j n) (by omega) hT hcr hR3 hseg
 have hg1:g-1<4294967296:=by have:=h.g32; omega
 refine h.div.next h.nm hR1 hR2 hg1 (h.wu.set (by omega)) (by simpa using hlu) ?_ (N0n hfin (by omega))
 rw[O07 (by omega)]
 exact M0n λi _ hi=>(h.out2 i (by omega)).trans (h.out i (by omega))
set_option maxHeartbeats 4000000 in
theorem U04{V:View}{s t:Sl}{a b:Nat}(hs:o00 V s a)(ht:o00 V t b)(ha:wn a<=2^43)(hb0:b≠0) :
 a00 Tryz.prog Y08 #[s.v,t.v] V λv V'=>∃q r:Sl,v = .tuple #[q.v,r.v]/\o00 V' q (a / b)/\o00 V' r (a%b):=by
 have hsl:=hs.len
 have htl:=ht.len
 obtain⟨sh,hsh⟩:∃sh,sh=32-bl ((dig b).getD (wn b-1) 0):=⟨_,rfl⟩
 obtain⟨hsh1,hwv,hlo⟩:=K0t hb0 hsh
 obtain⟨X,hX⟩:∃X,X=a*2^sh:=⟨_,rfl⟩
 obtain⟨vN,hvN⟩:∃v,v=b*2^sh:=⟨_,rfl⟩
 rw[<-hvN]at hwv hlo
 obtain⟨m,hm⟩:∃m,m=s.len+1:=⟨_,rfl⟩
 obtain⟨n,hn⟩:∃n,n=t.len:=⟨_,rfl⟩
 have hna:wn a=s.len:=hsl.symm
 have hnb:wn b=n:=by rw[hn]; exact htl.symm
 have hal:=x0e a
 rw[hna]at ha hal
 rw[hnb]at hwv hlo
 have hcmp:=U0b hs ht (by omega)
 obtain⟨v1,hv1⟩:∃v1,v1=(dig vN).getD (n-1) 0:=⟨_,rfl⟩
 obtain⟨v2,hv2⟩:∃v2,v2=(dig vN).getD (n-2) 0:=⟨_,rfl⟩
 refine q0k s t V _
  (λc x V'=>∃(v:Sl) (j:Nat) (u qd:List Nat),c=y01.mk (sh:Nat) v (n:Nat) (m-n) (m-n)/\o00 V' v vN/\x=D01.mk ((j:Int)-1) (wv u) (wv qd)/\DivI X vN n m j u qd)
  (λ_ x _=>(x.t13+1).toNat)
  (λc x _=>∃(v:Sl) (j g:Nat) (u qd:List Nat),c=o01.mk (sh:Nat) v (n:Nat) (m-n) (m-n) (j:Nat) (wv u) (wv qd)/\x=E01.mk (g:Nat)/\g<4294967296/\seg u j (n+1) / vN<=g/\(g-1)*vN<=seg u j (n+1))
  (λc x _=>∃(v:Sl) (j g r:Nat) (u qd:List Nat),c=k01.mk (sh:Nat) v (n:Nat) (m-n) (m-n) (j:Nat) (wv u) (wv qd)/\x=q01.mk (g:Nat) (r:Nat)/\r<4294967296/\g*v1+r=u.getD (j+n) 0*4294967296+u.getD (j+n-1) 0 /\
    seg u j (n+1) / vN<=g)
  (λ_ x _=>x.t15.toNat)
  (λc x _=>∃(v:Sl) (j g i cr bo:Nat) (u qd u0:List Nat),c=F01.mk (sh:Nat) v (n:Nat) (m-n) (m-n) (j:Nat) (g:Nat)/\x=K01.mk (bo:Nat) (cr:Nat) (i:Nat) (wv u) (wv qd)/\D0q X vN n m j g i cr bo u qd u0)
  (λ_ x _=>(n-x.t19).toNat)
  (λc x _=>∃(v:Sl) (j g k cr:Nat) (u qd u0 l':List Nat),c=G01.mk (sh:Nat) v (n:Nat) (m-n) (m-n) (j:Nat) ((g-1:Nat):Int)/\x=L01.mk (cr:Nat) (k:Nat) (wv u) (wv qd)/\0<g/\S0n X vN n m j g k cr u qd u0 l')
  (λ_ x _=>(n-x.t23).toNat)
  (hcmp.mono λv V1 l1 hv=>⟨_,hv,λhlt => ?_,λhge=>⟨λh1 => ?_,λh2 => ?_⟩⟩)
 ·
   have hlt:a<b:=by
    rcases Nat.lt_or_ge a b with h|h
    . exact h
    . exfalso; revert hlt; rw[if_neg (by omega)]; split<;>simp
   exact⟨_,_,rfl,by rw[Nat.div_eq_of_lt hlt]; exact o00.zero V1,by rw[Nat.mod_eq_of_lt hlt]; exact hs.le l1⟩
 ·
   have h1:n=1:=by have:(t.len:Int)=1:=(by simpa using h1); omega
   have hb1:b<4294967296:=by have:=x0e b; rw[hnb,h1]at this; simpa using this
   have hd:(dig b).getD 0 0=b:=by rw[q0f]; simp; omega
   have hg:=(ht.le l1).get (i:=0) (by omega) (by omega)
   simp only[Int.toNat_zero,hd]at hg
   refine⟨⟨by omega,by omega,ht.isSome (by omega)⟩,_,hg,?_⟩
   refine(S0f (hs.le l1) (by omega) (by omega) hb1).mono λv V2 l2 ⟨q,hv,hq⟩=>⟨q,_,hv,?_⟩
   have hmod:a%b<b:=Nat.mod_lt _ (by omega)
   rw[u64w (by omega) (by omega)]
   refine(i06 (by omega) (by omega)).mono λv V3 l3 ⟨r,hv,hr⟩=>⟨r,hv,q,r,rfl,hq.le l3,?_⟩
   rw[Int.toNat_natCast]at hr; exact hr
 have hab:b<=a:=by
  rcases Nat.lt_or_ge a b with h|h
  . exfalso; revert hge; rw[if_pos h]; simp
  . exact h
 have hnm:n<=s.len:=by rw[<-hna,<-hnb]; exact H09 hab
 have hn0:n≠0:=by rw[<-hnb]; intro e; exact hb0 (P04.1 e)
 have hn2:2<=n:=by have:¬(t.len:Int)=1:=(by simpa using h2); omega
 have E2:i64.wrap ((s.len:Int)+1)=(m:Nat):=by rw[i64w (by omega) (by omega)]; omega
 have E3:i64.wrap ((m:Int)-(n:Int))=((m-n:Nat):Int):=by rw[i64w (by omega) (by omega)]; omega
 have E1:i64.wrap ((n:Int)-1)=((n-1:Nat):Int):=by rw[i64w (by omega) (by omega)]; omega
 have E4:i64.wrap ((n:Int)-2)=((n-2:Nat):Int):=by rw[i64w (by omega) (by omega)]; omega
 have E5:i64.wrap (((m-n:Nat):Int)-1)=((m-n:Nat):Int)-1:=by rw[i64w (by omega) (by omega)]
 have E6:(t.len:Int)=(n:Nat):=by omega
 have hblb:=b12 hb0
 have hbltop:bl ((dig b).getD (wn b-1) 0)<=32:=by
  have h3:=(P07 hb0).2.2
  have:=I0d h3
  have:=(X03 b).getD (wn b-1)
  have:=(Nat.pow_lt_pow_iff_right (a:=2) (n:=bl ((dig b).getD (wn b-1) 0)-1) (m:=32) (by omega)).1 (by omega)
  omega
 have Esh:i64.wrap (i64.wrap (32*(t.len:Int))-(bl b:Nat))=(sh:Nat):=by
  rw[i64w (n:=32*(t.len:Int)) (by omega) (by omega),i64w (by omega) (by omega)]; omega
 refine(P02 (ht.le l1) (by omega)).mono λv V4 l4 hv=>⟨_,hv,?_⟩
 simp only[Esh]
 refine(T04 (ht.le (View.le_trans l1 l4)) (by omega) (by omega)).mono λv V5 l5 ⟨w,hv,hw⟩=>⟨w,hv,?_⟩
 rw[<-hvN]at hw
 have hwl:w.len=n:=by have:=hw.len; simp only[wn]at hwv; omega
 simp only[E2,Int.toNat_natCast,hwl,E3,E1,E4,E5]
 refine⟨⟨by omega,by omega,by omega,by omega⟩,(T04 (hs.le (View.le_trans l1 (View.le_trans l4 l5))) (by omega) (by omega)).mono λv V6 l6 ⟨ua,hv,hua⟩=>⟨ua,hv,?_⟩⟩
 rw[<-hX]at hua
 have hXm:wn X<=m:=by
  refine n05 ?_
  rw[hX,hm,Nat.pow_succ]
  exact Nat.mul_lt_mul'' hal (Nat.lt_of_le_of_lt (Nat.pow_le_pow_right (by omega) hsh1) (by omega))
 have hual:=hua.len
 simp only[wn]at hXm
 refine⟨wv (dig X),A01.has hua,by rw[D00]; omega,?_,?_,?_,⟨by omega,by omega,by omega,by omega⟩,?_⟩
 . by_cases h0:ua.len=0
   . left; have:(dig X).length=0:=by omega
     rw[List.eq_nil_of_length_eq_zero this]; rfl
   . right; exact hua.isSome (by omega)
 . intro v hv; simp only[wv,List.mem_map]at hv; obtain⟨d,_,rfl⟩:=hv; rfl
 . rw[L04,D00,D00]; simp; omega
 rw[L04,L04,C0x m (dig X) (by omega)]
 have hq0:seg (dig X++List.replicate (m-(dig X).length) 0) 0 m=X:=by
  rw[W06 (by simp; omega),x0t,l01]
 have h7:=p0q hal hm hX hsh1 (by omega) (by omega) hlo _ hq0
 refine⟨⟨w,m-n,_,_,rfl,hw.le l6,rfl,by omega,?_,by simp; omega,WB.zeros _,by simp,?_,h7⟩,?_⟩
 . intro d hd
   rcases List.mem_append.1 hd with hd|hd
   . exact X03 X d hd
   . rw[(List.mem_replicate.1 hd).2]; omega
 . rw[show m-n+n=m by omega,hq0,Nat.sub_self,o05]; simp
 rintro _ V7 hle7 ⟨w',j,u,qd,hc,hw7,rfl,hD⟩
 obtain rfl:w'=w:=by simp only[y01.mk.injEq]at hc; exact hc.2.1.symm
 have hjl:=hD.jl
 have hlu:=hD.lu
 have hlq:=hD.lq
 have hwu:=hD.wu
 simp only[O0s]
 refine⟨λhp => ?_,λhp b1 V12 l12 hb1 b2 V13 l13 hb2 => ?_⟩
 . simp only[ge_iff_le,decide_eq_true_eq]at hp
   obtain⟨i,rfl⟩:∃i,j=i+1:=⟨j-1,by omega⟩
   have e0:(((i+1:Nat):Int)-1)=(i:Nat):=by omega
   simp only[e0]
   have F1:i64.wrap ((i:Int)+(n:Int))=((i+n:Nat):Int):=by rw[i64w (by omega) (by omega)]; omega
   have F2:i64.wrap (((i+n:Nat):Int)-1)=((i+n-1:Nat):Int):=by rw[i64w (by omega) (by omega)]; omega
   have F3:i64.wrap (((i+n:Nat):Int)-2)=((i+n-2:Nat):Int):=by rw[i64w (by omega) (by omega)]; omega
   have F4:i64.wrap ((i:Int)-1)=(i:Int)-1:=by rw[i64w (by omega) (by omega)]
   simp only[F1,F2,F3,F4,Int.toNat_natCast,Nat.zero_add,Nat.mul_one]
   have G:=q0n hwu hn2 hwv hD.lt
   rw[<-hv1,<-hv2]at G
   obtain⟨W,hW⟩:∃W,W=seg u i (n+1):=⟨_,rfl⟩
   obtain⟨u2,hu2⟩:∃x,x=u.getD (i+n) 0:=⟨_,rfl⟩
   obtain⟨u1,hu1⟩:∃x,x=u.getD (i+n-1) 0:=⟨_,rfl⟩
   obtain⟨u0,hu0⟩:∃x,x=u.getD (i+n-2) 0:=⟨_,rfl⟩
   rw[<-hW,<-hu2,<-hu1,<-hu0]at G
   have hu2l:u2<4294967296:=by rw[hu2]; exact hwu.getD _
   have hv1l:=G.h1
   have hv1p:=G.pos
   have hu1l:=G.k1
   have hv1b:2147483648<=v1:=by
    have hvn0:vN≠0:=by rintro rfl; rw[w06]at hwv; omega
    have h3:=(P07 hvn0).2.1
    rw[hwv,<-hv1]at h3
    have h4:2147483648*4294967296^(n-1)<(v1+1)*4294967296^(n-1):=by omega
    have:=Nat.lt_of_mul_lt_mul_right h4
    omega
   have gv1:=(hw7).get (i:=((n-1:Nat):Int)) (by omega) (by omega)
   rw[Int.toNat_natCast,<-hv1,Nat.mul_one]at gv1
   have gv2:=(hw7).get (i:=((n-2:Nat):Int)) (by omega) (by omega)
   rw[Int.toNat_natCast,<-hv2,Nat.mul_one]at gv2
   have hws:=hw7.isSome (by omega)
   have hor:BitVec.toNat ((BitVec.ofInt u64.bits (u64.wrap ((u64.wrap (u2:Int))*4294967296))) ||| (BitVec.ofInt u64.bits (u64.wrap (u1:Int))))=u2*4294967296+u1:=by
    rw[u64w (n:=(u2:Int)) (by omega) (by omega),u64w (n:=(u1:Int)) (by omega) (by omega),u64w (by omega) (by omega),show(u2:Int)*4294967296=((u2*4294967296:Nat):Int)by omega]
    exact or64 hu1l hu2l
   refine⟨⟨by omega,by omega⟩,_,M07 (by omega),⟨by omega,by omega⟩,_,M07 (by omega),⟨by omega,by omega,hws⟩,_,gv1,?_,⟨by omega,by omega,hws⟩,_,gv1,?_,⟨?_,?_⟩,?_⟩
   . rw[u64w (by omega) (by omega)]; omega
   . rw[u64w (by omega) (by omega)]; omega
   ·
     rw[<-hu2,<-hu1,hor,u64w (n:=(v1:Int)) (by omega) (by omega),u64w (n:=((u2*4294967296+u1:Nat):Int)) (by omega) (by omega),<-Int.ofNat_tdiv,<-Int.ofNat_tmod]
     have h3:(u2*4294967296+u1) / v1<=u2*4294967296+u1:=Nat.div_le_self _ _
     have h4:(u2*4294967296+u1)%v1<v1:=Nat.mod_lt _ hv1p
     have h5:=Nat.div_add_mod' (u2*4294967296+u1) v1
     have h6:=G.init
     generalize (u2*4294967296+u1) / v1=g at *
     generalize (u2*4294967296+u1)%v1=r at *
     rw[u64w (n:=(g:Int)) (by omega) (by omega)]
     refine⟨w',i,g,r,u,qd,rfl,rfl,by omega,?_,?_⟩
     . rw[<-hu2,<-hu1]; exact h5
     . rw[<-hW]; exact h6
   ·
     rintro _ V9 l9 ⟨w2,i2,g,r,u',qd',hc2,rfl,hr,hgr,hge⟩
     simp only[k01.mk.injEq]at hc2
     obtain⟨_,rfl,_,_,_,hi2,hu',hq'⟩:=hc2
     obtain rfl:i2=i:=by omega
     obtain rfl:=l0h hu'
     obtain rfl:=l0h hq'
     rw[<-hu2,<-hu1]at hgr
     rw[<-hW]at hge
     have hgl:g<8589934592:=by
      rcases Nat.lt_or_ge g 8589934592 with h|h
      . exact h
      . exfalso
        have:=Nat.mul_le_mul h hv1b
        omega
     have gv1':=Q02 l9 gv1
     have gv2':=Q02 l9 gv2
     simp only
     have down:0<g->W / vN<=g-1->(4294967296<=r+v1->(g-1-1)*vN<=W/\g-1<4294967296) ->
      ((decide (((u64.wrap ((r:Int)+(u64.wrap (v1:Int)))):Int)>=4294967296))=true ->
        ∃(v:Sl) (j g':Nat) (u1 qd1:List Nat),o01.mk (sh:Nat) w' (n:Nat) (m-n) (m-n) (i2:Nat) (wv u) (wv qd)=o01.mk (sh:Nat) v (n:Nat) (m-n) (m-n) (j:Nat) (wv u1) (wv qd1)/\E01.mk (u64.wrap ((g:Int)-1))=E01.mk (g':Nat)/\g'<4294967296/\seg u1 j (n+1) / vN<=g'/\(g'-1)*vN<=seg u1 j (n+1)) /\
      ((decide (((u64.wrap ((r:Int)+(u64.wrap (v1:Int)))):Int)>=4294967296))=false ->
        (∃(v:Sl) (j g' r':Nat) (u1 qd1:List Nat),k01.mk (sh:Nat) w' (n:Nat) (m-n) (m-n) (i2:Nat) (wv u) (wv qd)=k01.mk (sh:Nat) v (n:Nat) (m-n) (m-n) (j:Nat) (wv u1) (wv qd1) /\
          q01.mk (u64.wrap ((g:Int)-1)) (u64.wrap ((r:Int)+(u64.wrap (v1:Int))))=q01.mk (g':Nat) (r':Nat)/\r'<4294967296/\g'*v1+r'=u1.getD (j+n) 0*4294967296+u1.getD (j+n-1) 0/\seg u1 j (n+1) / vN<=g') /\
        (u64.wrap ((g:Int)-1)).toNat<(g:Int).toNat):=by
      intro h0 h1 h2
      rw[u64w (n:=(v1:Int)) (by omega) (by omega),u64w (n:=(r:Int)+v1) (by omega) (by omega),u64w (n:=(g:Int)-1) (by omega) (by omega)]
      have e1:(g:Int)-1=((g-1:Nat):Int):=by omega
      have e2:(r:Int)+v1=((r+v1:Nat):Int):=by omega
      rw[e1,e2]
      refine⟨λh => ?_,λh => ?_⟩
      . simp only[ge_iff_le,decide_eq_true_eq]at h
        obtain⟨h3,h4⟩:=h2 (by omega)
        exact⟨w',i2,g-1,u,qd,rfl,rfl,h4,by rw[<-hW]; exact h1,by rw[<-hW]; exact h3⟩
      . simp only[ge_iff_le,decide_eq_false_iff_not]at h
        refine⟨⟨w',i2,g-1,r+v1,u,qd,rfl,rfl,by omega,?_,by rw[<-hW]; exact h1⟩,by omega⟩
        rw[<-hu2,<-hu1,<-hgr]
        obtain⟨k,rfl⟩:∃k,g=k+1:=⟨g-1,by omega⟩
        rw[Nat.succ_mul,Nat.add_sub_cancel]; omega
     refine⟨λhp2=>⟨λ_ => ?_,λh=>by cases h⟩,λhp2 => ?_⟩
     . simp only[ge_iff_le,decide_eq_true_eq]at hp2
       have hq:=G.quo
       refine⟨⟨by omega,by omega,hws⟩,_,gv1',?_⟩
       exact down (by omega) (by omega) (λh=>(G.brk hgr (by omega) h).symm)
     . simp only[ge_iff_le,decide_eq_false_iff_not]at hp2
       have hg32:g<4294967296:=by omega
       have hv2l:=G.h2
       have hm1:=G0f hg32 hv2l
       have hu0l:=G.k0
       refine⟨⟨by omega,by omega,hws⟩,_,gv2',⟨by omega,by omega⟩,_,M07 (by omega),?_⟩
       rw[<-hu0]
       have hor2:BitVec.toNat ((BitVec.ofInt u64.bits (u64.wrap ((r:Int)*4294967296))) ||| (BitVec.ofInt u64.bits (u64.wrap (u0:Int))))=r*4294967296+u0:=by
        rw[u64w (n:=(u0:Int)) (by omega) (by omega),u64w (by omega) (by omega),show(r:Int)*4294967296=((r*4294967296:Nat):Int)by omega]
        exact or64 hu0l hr
       rw[hor2,u64w (n:=(v2:Int)) (by omega) (by omega),<-Int.natCast_mul,u64w (n:=((g*v2:Nat):Int)) (by omega) (by omega),u64w (n:=((r*4294967296+u0:Nat):Int)) (by omega) (by omega)]
       refine⟨λhp3 => ?_,λhp3 => ?_⟩
       . simp only[gt_iff_lt,decide_eq_true_eq]at hp3
         have hd:=G.dec hgr (by omega)
         refine⟨⟨by omega,by omega,hws⟩,_,gv1',?_⟩
         have hg0:0<g:=Nat.lt_of_le_of_lt (Nat.zero_le _) hd
         exact down hg0 (Nat.le_sub_one_of_lt hd) (λh=>(G.brk hgr hg0 h).symm)
       . simp only[gt_iff_lt,decide_eq_false_iff_not]at hp3
         exact⟨w',i2,g,u,qd,rfl,rfl,hg32,by rw[<-hW]; exact hge,by rw[<-hW]; exact G.exit hgr hg32 (by omega)⟩
   ·
     rintro _ V8 l8 ⟨w2,i2,g,u',qd',hc2,rfl,hg32,hge,hgl⟩
     simp only[o01.mk.injEq]at hc2
     obtain⟨_,rfl,_,_,_,hi2,hu',hq'⟩:=hc2
     obtain rfl:i2=i:=by omega
     obtain rfl:=l0h hu'
     obtain rfl:=l0h hq'
     refine⟨⟨w',i2,g,0,0,0,u,qd,u,rfl,rfl,hD,hn2,by omega,hwv,hg32,hge,hgl,by omega,hwu,hlu,by omega,by omega,λ_ _=>rfl,by simp[o05,wval]⟩,?_⟩
     clear G hge hgl gv1 gv2 hor hq0 h7 hXm hual hua hcmp hlo hX hvN hsh hblb hbltop Esh hv1 hv2 hu2 hu1 hu0 hW
     rintro _ V10 l10 ⟨w2,i9,g9,k,c0,b0,u9,qd9,u00,hc9,rfl,hT⟩
     simp only[F01.mk.injEq]at hc9
     obtain⟨_,rfl,_,_,_,hi9,hgg⟩:=hc9
     obtain rfl:i2=i9:=by omega
     obtain rfl:g=g9:=by omega
     have hjn:=hT.jn
     have hkn:=hT.i_le
     have hlu9:=hT.lu
     have hlq9:=hT.div.lq
     have hme:((i2:Int)-1+1).toNat<(((i2+1:Nat):Int)).toNat:=by omega
     simp only[q0y,Int.toNat_natCast]
     refine⟨λhp2 => ?_,λhp2 => ?_⟩
     . simp only[decide_eq_true_eq]at hp2
       have hkn:k<n:=by omega
       have K1:i64.wrap ((k:Int)+i2)=((i2+k:Nat):Int):=by rw[i64w (by omega) (by omega)]; omega
       simp only[K1,Int.toNat_natCast]
       have gk:=(hw7.le (View.le_trans l8 l10)).get (i:=(k:Nat)) (by omega) (by omega)
       simp only[Int.toNat_natCast,Nat.mul_one]at gk
       refine⟨⟨by omega,by omega,hws⟩,_,gk,⟨by omega,by omega⟩,_,M07 (by omega),⟨by omega,by omega⟩,by rw[D00]; omega,?_⟩
       obtain⟨low,br,c,e1,e2,e3,hT'⟩:=hT.step hkn
       rw[e1,e2,e3,N04,i64w (n:=(k:Int)+1) (by omega) (by omega)]
       exact⟨⟨w',i2,g,k+1,c,br,_,qd9,u00,rfl,rfl,hT'⟩,by omega⟩
     simp only[decide_eq_false_iff_not]at hp2
     obtain rfl:n=k:=by omega
     refine⟨⟨by omega,by omega⟩,_,M07 (by omega),⟨by omega,by omega⟩,by rw[D00]; omega,?_⟩
     obtain⟨low,br,e1,e2,hl',hb1,hb0⟩:=hT.last
     rw[e1,e2,N04]
     refine⟨λhn1 => ?_,λhn1 => ?_⟩
     ·
       obtain⟨hB,hg0⟩:=hb1 (by have:(br:Int)=1:=(by simpa using hn1); omega)
       rw[u64w (n:=(g:Int)-1) (by omega) (by omega),show(g:Int)-1=((g-1:Nat):Int)by omega]
       refine⟨⟨w',i2,g,0,0,_,qd9,u00,_,rfl,rfl,hg0,hB⟩,?_⟩
       clear hT hB hb1 hb0 hl' e1 e2
       rintro _ V11 l11 ⟨w3,i3,g3,k3,cr,u3,qd3,u03,l3,hc3,rfl,hg3,hB⟩
       simp only[G01.mk.injEq]at hc3
       obtain⟨_,rfl,_,_,_,hi3,hg3'⟩:=hc3
       obtain rfl:i2=i3:=by omega
       obtain rfl:g=g3:=by omega
       have hjn:=hB.jn
       have hkn:=hB.k_le
       have hlu3:=hB.lu
       have hlq3:=hB.div.lq
       simp only[Int.toNat_natCast]
       refine⟨λhp4 => ?_,λhp4 => ?_⟩
       . simp only[decide_eq_true_eq]at hp4
         have hkn:k3<n:=by omega
         have K1:i64.wrap ((k3:Int)+i2)=((i2+k3:Nat):Int):=by rw[i64w (by omega) (by omega)]; omega
         simp only[K1,Int.toNat_natCast]
         have gk:=(hw7.le (View.le_trans l8 (View.le_trans l10 l11))).get (i:=(k3:Nat)) (by omega) (by omega)
         simp only[Int.toNat_natCast,Nat.mul_one]at gk
         refine⟨⟨by omega,by omega⟩,_,M07 (by omega),⟨by omega,by omega,hws⟩,_,gk,⟨by omega,by omega⟩,by rw[D00]; omega,?_⟩
         obtain⟨low,c,e1,e2,hB'⟩:=hB.step hkn
         rw[e1,e2,N04,i64w (n:=(k3:Int)+1) (by omega) (by omega)]
         exact⟨⟨w',i2,g,k3+1,c,_,qd3,u03,l3,rfl,rfl,hg3,hB'⟩,by omega⟩
       . simp only[decide_eq_false_iff_not]at hp4
         obtain rfl:n=k3:=by omega
         refine⟨⟨by omega,by omega⟩,_,M07 (by omega),⟨by omega,by omega⟩,by rw[D00]; omega,⟨by omega,by omega⟩,by rw[D00]; omega,?_⟩
         obtain⟨low,e1,hD'⟩:=hB.last
         rw[u32w (n:=((g-1:Nat):Int)) (by omega) (by omega),e1,N04,N04]
         exact⟨⟨w',i2,_,_,rfl,hw7.le (View.le_trans l8 (View.le_trans l10 l11)),rfl,hD'⟩,hme⟩
     ·
       have hD':=hb0 (λh=>by rw[h]at hn1; simp at hn1)
       rw[u32w (n:=(g:Int)) (by omega) (by omega),N04]
       exact⟨⟨by omega,by omega⟩,by rw[D00]; omega,⟨w',i2,_,_,rfl,hw7.le (View.le_trans l8 l10),rfl,hD'⟩,hme⟩
 ·
   simp only[ge_iff_le,decide_eq_false_iff_not]at hp
   obtain rfl:j=0:=by omega
   have heq:=hD.eq
   have hlt0:=hD.lt
   rw[Nat.zero_add,Nat.pow_zero,Nat.one_mul,Nat.sub_zero]at heq
   obtain⟨hq1,hr1⟩:=M0t hX hvN hb0 heq hlt0
   have hwq:A01 V12 (Sl.mk (some (Addr.mk b1 0 none)) (m-n) (m-n)) qd:=A01.of_block hb1 (by omega) (Nat.le_refl _) hD.wq
   have hwr:A01 V13 (Sl.mk (some (Addr.mk b2 0 none)) m m) u:=A01.of_block hb2 (by omega) (Nat.le_refl _) hwu
   refine⟨⟨by omega,by omega,by omega⟩,(J03 (A01.le l13 hwq) (by omega)).mono λv V14 l14 ⟨q,hv,hq⟩=>⟨q,hv,?_⟩⟩
   have hwr2:A01 V14 (Sl.mk (some (Addr.mk b2 0 none)) n m) (u.take n):=A01.le l14 (A01.pre hwr (k:=n) (c:=m) (by omega) (by omega))
   have hl50:(u.take n).length<=2^50:=by rw[List.length_take]; omega
   have hz:Int.toNat 0=0:=rfl
   have hm0:¬m=0:=by omega
   have hadd:Option.map (λq=>Addr.add q 0) (some (Addr.mk b2 0 none))=some (Addr.mk b2 0 none):=by simp[Addr.add]
   simp only[hz,hm0,if_false,Nat.zero_mul,hadd,Nat.sub_zero]
   have htr:=J03 hwr2 hl50
   refine htr.mono λv V15 l15 ⟨r,hv,hr⟩=>⟨r,hv,?_⟩
   rw[<-n0n]at hr
   have hrw:wn (seg u 0 n)<=2^44:=by
    have:=n05 (S0b hwu 0 n)
    omega
   refine(Q06 hr hrw (by omega)).mono λv V16 l16 ⟨r2,hv,hr2⟩=>⟨r2,hv,q,r2,rfl,?_,?_⟩
   . rw[<-hq1,W06 (by omega)]; exact hq.le (View.le_trans l15 l16)
   . rw[<-hr1]; exact hr2
theorem Y0b{V:View}{s t:Sl}{a b:Nat}(hs:o00 V s a)(ht:o00 V t b)(ha:wn a<=2^43)(hb:wn b<=2^43) :
 a00 Tryz.prog y0m #[s.v,t.v] V λv V'=>∃r:Sl,v=r.v/\o00 V' r (Nat.gcd a b):=by
 refine k0k s t V _ (λ_ x V'=>∃a' b',o00 V' x.t0 a'/\o00 V' x.t1 b'/\wn a'<=2^43/\wn b'<=2^43/\Nat.gcd a' b'=Nat.gcd a b) (λ_ x V'=>Y0d V' x.t1) ⟨⟨a,b,hs,ht,ha,hb,rfl⟩,?_⟩
 rintro⟨x,y⟩ V1 l1 ⟨a',b',hx,hy,wa,wb,hg⟩
 simp only at hx hy ⊢
 have hyl:=hy.len
 refine⟨λhp => ?_,λhp => ?_⟩
 . simp only[gt_iff_lt,decide_eq_true_eq]at hp
   have hb0:b'≠0:=λe=>by rw[<-hy.len_zero]at e; omega
   refine(U04 hx hy wa hb0).mono λv V2 l2 ⟨q,r,hv,hq,hr⟩=>⟨q,r,hv,?_⟩
   have hlt:a'%b'<b':=Nat.mod_lt _ (by omega)
   have hwr:wn (a'%b')<=wn b':=H09 (Nat.le_of_lt hlt)
   refine⟨⟨b',a'%b',hy.le l2,hr,wb,by omega,?_⟩,?_⟩
   . rw[Nat.gcd_comm,<-Nat.gcd_rec,Nat.gcd_comm]; exact hg
   . rw[A08 hr,A08 hy]; exact hlt
 . simp only[gt_iff_lt,decide_eq_false_iff_not]at hp
   have hb0:b'=0:=hy.len_zero.1 (by omega)
   subst hb0
   rw[Nat.gcd_zero_right]at hg
   exact⟨x,rfl,by rw[<-hg]; exact hx⟩
theorem K02{V:View}{s:Sl}{n:Nat}(neg:Bool)(h:o00 V s n) :
 a00 Tryz.prog Z08 #[.bool neg,s.v] V λv V'=>∃r:WhV,v=r.val/\d02 V' r (if neg=true then -(n:Int)else n):=by
 have hl:=h.len_zero
 refine l0k neg s V _ ⟨λhn=>⟨_,rfl,?_,?_⟩,λhn=>⟨_,rfl,?_,?_⟩⟩
 . rw[if_pos hn]; simp only[gt_iff_lt,decide_eq_decide]; omega
 . rw[if_pos hn]; simpa using h
 . rw[if_neg (by simp[hn])]; symm; simp only[decide_eq_false_iff_not]; omega
 . rw[if_neg (by simp[hn])]; simpa using h
theorem D07{V:View}{n:Int}(h0 : -9223372036854775808<=n)(h1:n<=9223372036854775807) :
 a00 Tryz.prog L0o #[.int .i64 n] V λv V'=>∃r:WhV,v=r.val/\d02 V' r n:=by
 refine b0n n V _ ⟨λhn => ?_,λhn => ?_⟩
 . simp only[decide_eq_true_eq]at hn
   have e:u64.wrap (i64.wrap (0-n)) = -n:=by
    by_cases hm:n = -9223372036854775808
    . subst hm; decide
    . rw[i64w (by omega) (by omega),u64w (by omega) (by omega)]; omega
   rw[e]
   refine(i06 (by omega) (by omega)).mono λv V1 _ ⟨r,hv,hr⟩=>⟨r,hv,_,rfl,by simp[hn],?_⟩
   have e2:n.natAbs=(-n).toNat:=by omega
   rw[e2]; exact hr
 . simp only[decide_eq_false_iff_not]at hn
   rw[u64w (by omega) (by omega)]
   refine(i06 (by omega) (by omega)).mono λv V1 _ ⟨r,hv,hr⟩=>⟨r,hv,_,rfl,by simp[hn],?_⟩
   have e2:n.natAbs=n.toNat:=by omega
   rw[e2]; exact hr
theorem W04{V:View}{x:WhV}{a:Int}(h:d02 V x a) :
 a00 Tryz.prog u0m #[x.val] V λv V'=>∃r:WhV,v=r.val/\d02 V' r (-a):=by
 refine m0k x V _ ((K02 (!x.neg) h.2).mono λv V1 _ ⟨r,hv,hr⟩=>⟨r,hv,r,rfl,?_⟩)
 have e:(if(!x.neg)=true then -(a.natAbs:Int)else(a.natAbs:Int)) = -a:=by
  rw[h.1]; simp only[Bool.not_eq_true',decide_eq_false_iff_not]; split<;>omega
 rw[e]at hr; exact hr
theorem S06{V:View}{x y:WhV}{a b:Int}(hx:d02 V x a)(hy:d02 V y b)(ha:wn a.natAbs<=2^43)(hb:wn b.natAbs<=2^43) :
 a00 Tryz.prog n0m #[x.val,y.val] V λv V'=>∃r:WhV,v=r.val/\d02 V' r (a+b):=by
 have h1:=hx.1
 have h2:=hy.1
 refine p0k x y V _ ⟨λhs => ?_,λhs => ?_⟩
 . refine(W0b hx.2 hy.2 (by omega) (by omega)).mono λv V1 l1 ⟨r,hv,hr⟩=>⟨r,hv,?_⟩
   refine(K02 x.neg hr).mono λv V2 _ ⟨w,hv,hw⟩=>⟨w,hv,w,rfl,?_⟩
   have e:(if x.neg=true then -((a.natAbs+b.natAbs:Nat):Int)else((a.natAbs+b.natAbs:Nat):Int))=a+b:=by
    rw[h1,h2]at hs; rw[h1]
    by_cases p:a<0<;>by_cases q:b<0<;>simp[p,q]at hs ⊢<;>omega
   rw[e]at hw; exact hw
 . refine(U0b hx.2 hy.2 (by omega)).mono λv V1 l1 hv=>⟨_,hv,λhc => ?_,λhc => ?_⟩
   . have hc:b.natAbs<=a.natAbs:=by
       rcases Nat.lt_or_ge a.natAbs b.natAbs with h|h
       . rw[if_pos h]at hc; simp at hc
       . exact h
     refine(X0b (hx.2.le l1) (hy.2.le l1) (by omega) hc).mono λv V2 l2 ⟨r,hv,hr⟩=>⟨r,hv,?_⟩
     refine(K02 x.neg hr).mono λv V3 _ ⟨w,hv,hw⟩=>⟨w,hv,w,rfl,?_⟩
     have e:(if x.neg=true then -((a.natAbs-b.natAbs:Nat):Int)else((a.natAbs-b.natAbs:Nat):Int))=a+b:=by
      rw[h1,h2]at hs; rw[h1]
      by_cases p:a<0<;>by_cases q:b<0<;>simp[p,q]at hs ⊢<;>omega
     rw[e]at hw; exact hw
   . have hc:a.natAbs<=b.natAbs:=by
       rcases Nat.lt_or_ge b.natAbs a.natAbs with h|h
       . rw[if_neg (by omega),if_neg (by omega)]at hc; simp at hc
       . exact h
     refine(X0b (hy.2.le l1) (hx.2.le l1) (by omega) hc).mono λv V2 l2 ⟨r,hv,hr⟩=>⟨r,hv,?_⟩
     refine(K02 y.neg hr).mono λv V3 _ ⟨w,hv,hw⟩=>⟨w,hv,w,rfl,?_⟩
     have e:(if y.neg=true then -((b.natAbs-a.natAbs:Nat):Int)else((b.natAbs-a.natAbs:Nat):Int))=a+b:=by
      rw[h1,h2]at hs; rw[h2]
      by_cases p:a<0<;>by_cases q:b<0<;>simp[p,q]at hs ⊢<;>omega
     rw[e]at hw; exact hw
theorem L0h{V:View}{x y:WhV}{a b:Int}(hx:d02 V x a)(hy:d02 V y b)(ha:wn a.natAbs<=2^43)(hb:wn b.natAbs<=2^43) :
 a00 Tryz.prog q0m #[x.val,y.val] V λv V'=>∃r:WhV,v=r.val/\d02 V' r (a-b):=by
 refine n0k x y V _ ((W04 hy).mono λv V1 l1 ⟨r,hv,hr⟩=>⟨r,hv,?_⟩)
 rw[Int.sub_eq_add_neg]
 exact(S06 (hx.le l1) hr ha (by rw[Int.natAbs_neg]; exact hb)).mono λv V2 _ ⟨w,hv,hw⟩=>⟨w,hv,w,rfl,hw⟩
theorem o02{V:View}{x y:WhV}{a b:Int}(hx:d02 V x a)(hy:d02 V y b)(ha:wn a.natAbs<=2^43)(hb:wn b.natAbs<=2^43) :
 a00 Tryz.prog o0m #[x.val,y.val] V λv V'=>∃r:WhV,v=r.val/\d02 V' r (a*b):=by
 refine o0k x y V _ ((P06 hx.2 hy.2 (by omega) (by omega)).mono λv V1 l1 ⟨r,hv,hr⟩=>⟨r,hv,?_⟩)
 refine(K02 (!(x.neg==y.neg)) hr).mono λv V2 _ ⟨w,hv,hw⟩=>⟨w,hv,w,rfl,?_⟩
 have e:(if(!(x.neg==y.neg))=true then -((a.natAbs*b.natAbs:Nat):Int)else((a.natAbs*b.natAbs:Nat):Int))=a*b:=by
  rw[N0t _ _ a b rfl rfl,hx.1,hy.1]
  by_cases p:a<0<;>by_cases q:b<0<;>simp[p,q]
 rw[e]at hw; exact hw
theorem o00.lit{V:View}{b n:Nat}(h:V b=some #[.int .u32 (n:Int)])(h0:n≠0)(h1:n<4294967296):o00 V (Sl.mk (some (Addr.mk b 0 none)) 1 1) n:=by
 have e:dig n=[n]:=by
  have h2:n / 4294967296=0:=Nat.div_eq_of_lt h1
  rw[T05 h0,h2,p04,Nat.mod_eq_of_lt h1]
 unfold o00
 rw[e]
 exact A01.of_block (by rw[h]; rfl) rfl (Nat.le_refl _) (by intro d hd; simp at hd; omega)
theorem O0y:dig 1=[1]:=by rw[T05 (by omega)]; simp[p04]
theorem d02.ofNat{V:View}{s:Sl}{n:Nat}(h:o00 V s n):d02 V (WhV.mk false s) (n:Int):=⟨by simp,h⟩
theorem B04{V:View}{x y:WhV}{s:Sl}{z:Cq}{a b:Int}{d:Nat}(hx:d02 V x a)(hy:d02 V y b)(hs:o00 V s d)(hz:Rep z a b d)(ha:wn a.natAbs<=2^43)(hb:wn b.natAbs<=2^43)(hd:wn d<=2^43) :
 a00 Tryz.prog A0i #[x.val,y.val,s.v] V λv V'=>∃r:NumV,v=r.val/\QAt V' r z:=by
 obtain⟨e1,e2,e3⟩:=hz.eqs
 have hp:=T0h a b hz.pos
 have d1:=E0c a b d
 have d2:=t0f a b d
 have d3:=U0i a b d
 refine x0p x y s V _ ((Y0b hx.2 hy.2 ha hb).mono λv V1 l1 ⟨r1,hv,h1⟩=>⟨r1,hv,?_⟩)
 have hw1:wn (Nat.gcd a.natAbs b.natAbs)<=2^43:=by
  rcases Nat.eq_zero_or_pos a.natAbs with h|h
  . rw[h,Nat.gcd_zero_left]; exact hb
  . exact Nat.le_trans (H09 (Nat.le_of_dvd h (Nat.gcd_dvd_left _ _))) ha
 refine(Y0b h1 (hs.le l1) hw1 hd).mono λv V2 l2 ⟨r2,hv,h2⟩=>⟨r2,hv,?_⟩
 have hg:Nat.gcd (Nat.gcd a.natAbs b.natAbs) d=gcd3 a b d:=rfl
 rw[hg]at h2
 have l02:=View.le_trans l1 l2
 have h2l:=h2.len
 have many:gcd3 a b d≠1->a00 Tryz.prog Y08 #[x.mag.v,r2.v] V2 λv V8=>∃(r11:Sl) (r12:Sl),v = .tuple #[r11.v,r12.v] /\
  a00 Tryz.prog Y08 #[y.mag.v,r2.v] V8 λv V9=>∃(r13:Sl) (r14:Sl),v = .tuple #[r13.v,r14.v] /\
  a00 Tryz.prog Y08 #[s.v,r2.v] V9 λv V10=>∃(r15:Sl) (r16:Sl),v = .tuple #[r15.v,r16.v] /\
  a00 Tryz.prog Z08 #[.bool x.neg,r11.v] V10 λv V11=>∃r17:WhV,v=r17.val /\
  a00 Tryz.prog Z08 #[.bool y.neg,r13.v] V11 λv V12=>∃r18:WhV,v=r18.val/\∃r:NumV,(NumV.mk r17 r18 r15).val=r.val/\QAt V12 r z:=by
  intro _
  refine(U04 (hx.2.le l02) h2 ha (by omega)).mono λv V4 l4 ⟨q1,m1,hv,hq1,_⟩=>⟨q1,m1,hv,?_⟩
  refine(U04 (hy.2.le (View.le_trans l02 l4)) (h2.le l4) hb (by omega)).mono λv V5 l5 ⟨q2,m2,hv,hq2,_⟩=>⟨q2,m2,hv,?_⟩
  have l45:=View.le_trans l4 l5
  refine(U04 (hs.le (View.le_trans l02 l45)) (h2.le l45) hd (by omega)).mono λv V6 l6 ⟨q3,m3,hv,hq3,_⟩=>⟨q3,m3,hv,?_⟩
  refine(K02 x.neg (hq1.le (View.le_trans l5 l6))).mono λv V7 l7 ⟨w1,hv,hw1⟩=>⟨w1,hv,?_⟩
  refine(K02 y.neg (hq2.le (View.le_trans l6 l7))).mono λv V8 l8 ⟨w2,hv,hw2⟩=>⟨w2,hv,_,rfl,?_,?_,?_⟩
  . rw[e1]
    have e:(if x.neg=true then -((a.natAbs / gcd3 a b d:Nat):Int)else((a.natAbs / gcd3 a b d:Nat):Int))=a / (gcd3 a b d:Nat):=by
     have k1:=p06 d1
     have k2:=I09 d1 hp
     rw[<-k1,hx.1]
     have k3:(a / (gcd3 a b d:Nat)<0)↔a<0:=by simpa using k2
     simp only[decide_eq_true_eq]
     split<;>omega
    rw[e]at hw1; exact hw1.le l8
  . rw[e2]
    have e:(if y.neg=true then -((b.natAbs / gcd3 a b d:Nat):Int)else((b.natAbs / gcd3 a b d:Nat):Int))=b / (gcd3 a b d:Nat):=by
     have k1:=p06 d2
     have k2:=I09 d2 hp
     rw[<-k1,hy.1]
     have k3:(b / (gcd3 a b d:Nat)<0)↔b<0:=by simpa using k2
     simp only[decide_eq_true_eq]
     split<;>omega
    rw[e]at hw2; exact hw2
  . rw[e3]; exact hq3.le (View.le_trans l7 l8)
 refine⟨λhn => ?_,λhn=>⟨λh=>absurd h (by simp),λ_ => ?_⟩⟩
 . have hn:r2.len=1:=by have:(r2.len:Int)=1:=(by simpa using hn); omega
   refine⟨⟨by omega,by omega,h2.isSome (by omega)⟩,_,h2.get (by omega) (by omega),λhw => ?_,λhw => ?_⟩
   . have hw:(dig (gcd3 a b d)).getD 0 0=1:=by have:(((dig (gcd3 a b d)).getD 0 0:Nat):Int)=1:=of_decide_eq_true (by rw[<-hw]; rfl); omega
     have hg1:gcd3 a b d=1:=by
      rw[hn]at h2l
      have h3:=l01 (gcd3 a b d)
      obtain⟨w,hw'⟩:∃w,dig (gcd3 a b d)=[w]:=List.length_eq_one_iff.1 h2l.symm
      rw[hw']at hw h3
      simp[wval]at hw h3
      omega
     rw[hg1]at e1 e2 e3
     simp only[Int.natCast_one,Int.ediv_one]at e1 e2
     rw[Nat.div_one]at e3
     exact⟨_,rfl,by rw[e1]; exact hx.le l02,by rw[e2]; exact hy.le l02,by rw[e3]; exact hs.le l02⟩
   . refine many λh => ?_
     rw[h,O0y]at hw; simp at hw
 . refine many λh => ?_
   rw[h,O0y]at h2l
   rw[h2l]at hn; simp at hn
theorem j06{V:View}{n:Int}(h0 : -9223372036854775808<=n)(h1:n<=9223372036854775807) :
 a00 Tryz.prog W09 #[.int .i64 n] V λv V'=>∃r:NumV,v=r.val/\QAt V' r ⟨(n:Rat),0⟩:=by
 obtain⟨e1,e2,e3⟩:=m0a n
 refine c0n n V _ ((D07 h0 h1).mono λv V1 _ ⟨r,hv,hr⟩=>⟨r,hv,λb V2 l2 _ hb=>⟨_,rfl,by rw[e1]; exact hr.le l2,by rw[e2]; exact d02.zero _,by rw[e3]; exact o00.lit hb (by omega) (by omega)⟩⟩)
theorem T0f{V:View}{p q d:Int}(p0 : -9223372036854775808<=p)(p1:p<=9223372036854775807)(q0 : -9223372036854775808<=q)(q1:q<=9223372036854775807)(d0 : -9223372036854775808<=d)(d1:d<=9223372036854775807)(hd:d≠0) :
 a00 Tryz.prog Q0u #[.int .i64 p,.int .i64 q,.int .i64 d] V λv V'=>∃r:NumV,v = .tuple #[r.val,.int .i64 0]/\QAt V' r ⟨(p:Rat) / (d:Rat),(q:Rat) / (d:Rat)⟩:=by
 refine q0s p q d V _ ⟨λh => ?_,λ_ => ?_⟩
 . exact absurd (by simpa using h) hd
 refine(D07 d0 d1).mono λv V1 l1 ⟨c,hv,hc⟩=>⟨c,hv,?_⟩
 refine(D07 p0 p1).mono λv V2 l2 ⟨a,hv,ha⟩=>⟨a,hv,?_⟩
 refine(D07 q0 q1).mono λv V3 l3 ⟨b,hv,hb⟩=>⟨b,hv,λhn => ?_,λhn => ?_⟩
 . have hneg:d<0:=by have:=hc.1; rw[hn]at this; simpa using this.symm
   refine(W04 (ha.le l3)).mono λv V4 l4 ⟨a',hv,ha'⟩=>⟨a',hv,?_⟩
   refine(W04 (hb.le l4)).mono λv V5 l5 ⟨b',hv,hb'⟩=>⟨b',hv,?_⟩
   refine(B04 (ha'.le l5) hb' (hc.2.le (View.le_trans l2 (View.le_trans l3 (View.le_trans l4 l5)))) ?_ (wn64 (by omega)) (wn64 (by omega)) (wn64 (by omega))).mono λv V6 l6 ⟨r,hv,hr⟩=>⟨r,hv,r,rfl,hr⟩
   have e:((d.natAbs:Nat):Rat) = -(d:Rat):=by
    have:(d.natAbs:Int) = -d:=by omega
    rw[<-Rat.intCast_natCast,this]; push_cast; rfl
   refine⟨by omega,?_,?_⟩<;>(simp only[e]; push_cast; rw[Rat.div_def,Rat.div_def]; grind)
 . have hpos:¬d<0:=by have:=hc.1; rw[hn]at this; simpa using this.symm
   refine(B04 (ha.le l3) hb (hc.2.le (View.le_trans l2 l3)) ?_ (wn64 (by omega)) (wn64 (by omega)) (wn64 (by omega))).mono λv V6 l6 ⟨r,hv,hr⟩=>⟨r,hv,r,rfl,hr⟩
   have e:((d.natAbs:Nat):Rat)=(d:Rat):=by
    have:(d.natAbs:Int)=d:=by omega
    rw[<-Rat.intCast_natCast,this]
   refine⟨by omega,?_,?_⟩<;>simp only[e]
theorem U0f{V:View}{x y:NumV}{z w:Cq}(hx:QAt V x z)(hy:QAt V y w)(hz:z.sz<=2^40)(hw:w.sz<=2^40) :
 a00 Tryz.prog J0u #[x.val,y.val] V λv V'=>∃r:NumV,v=r.val/\QAt V' r (z+w):=by
 have zA:=Cq.wA hz; have zB:=Cq.wB hz; have zD:=Cq.wD hz
 have wA:=Cq.wA hw; have wB:=Cq.wB hw; have wD:=Cq.wD hw
 have zD':wn (z.D:Int).natAbs<=2^35:=zD
 have wD':wn (w.D:Int).natAbs<=2^35:=wD
 have s1:=Y03 zA wD'; have s2:=Y03 wA zD'; have s3:=Y03 zB wD'; have s4:=Y03 wB zD'
 have s5:=G0b s1 s2; have s6:=G0b s3 s4
 have s7:=z08 z.D w.D
 refine s0s x y V _ ((o02 hx.re (d02.ofNat hy.under) (by omega) (by omega)).mono λv V1 l1 ⟨r1,hv,h1⟩=>⟨r1,hv,?_⟩)
 replace hx:=hx.le l1; replace hy:=hy.le l1
 refine(o02 hy.re (d02.ofNat hx.under) (by omega) (by omega)).mono λv V2 l2 ⟨r2,hv,h2⟩=>⟨r2,hv,?_⟩
 replace hx:=hx.le l2; replace hy:=hy.le l2; replace h1:=h1.le l2
 refine(S06 h1 h2 (by omega) (by omega)).mono λv V3 l3 ⟨r3,hv,h3⟩=>⟨r3,hv,?_⟩
 replace hx:=hx.le l3; replace hy:=hy.le l3
 refine(o02 hx.im (d02.ofNat hy.under) (by omega) (by omega)).mono λv V4 l4 ⟨r4,hv,h4⟩=>⟨r4,hv,?_⟩
 replace hx:=hx.le l4; replace hy:=hy.le l4; replace h3:=h3.le l4
 refine(o02 hy.im (d02.ofNat hx.under) (by omega) (by omega)).mono λv V5 l5 ⟨r5,hv,h5⟩=>⟨r5,hv,?_⟩
 replace hx:=hx.le l5; replace hy:=hy.le l5; replace h3:=h3.le l5; replace h4:=h4.le l5
 refine(S06 h4 h5 (by omega) (by omega)).mono λv V6 l6 ⟨r6,hv,h6⟩=>⟨r6,hv,?_⟩
 replace hx:=hx.le l6; replace hy:=hy.le l6; replace h3:=h3.le l6
 refine(P06 hx.under hy.under (by omega) (by omega)).mono λv V7 l7 ⟨r7,hv,h7⟩=>⟨r7,hv,?_⟩
 exact(B04 (h3.le l7) (h6.le l7) h7 (z.canon.rep.add w.canon.rep) (by omega) (by omega) (by omega)).mono λv V10 _ ⟨r,hv,hr⟩=>⟨r,hv,r,rfl,hr⟩
theorem T0n{V:View}{x:NumV}{z:Cq}(hx:QAt V x z):a00 Tryz.prog b0v #[x.val] V λv V'=>∃r:NumV,v=r.val/\QAt V' r (-z):=by
 obtain⟨e1,e2,e3⟩:=z.neg_eqs
 refine u0s x V _ ((W04 hx.re).mono λv V1 l1 ⟨r1,hv,h1⟩=>⟨r1,hv,?_⟩)
 exact(W04 (hx.im.le l1)).mono λv V2 l2 ⟨r2,hv,h2⟩=>⟨r2,hv,_,rfl,by rw[e1]; exact h1.le l2,by rw[e2]; exact h2,by rw[e3]; exact hx.under.le (View.le_trans l1 l2)⟩
theorem d0e{V:View}{x:NumV}{z:Cq}(hx:QAt V x z):a00 Tryz.prog H0r #[x.val] V λv V'=>∃r:NumV,v=r.val/\QAt V' r z.conj:=by
 obtain⟨e1,e2,e3⟩:=z.conj_eqs
 exact y0p x V _ ((W04 hx.im).mono λv V1 l1 ⟨r1,hv,h1⟩=>⟨r1,hv,_,rfl,by rw[e1]; exact hx.re.le l1,by rw[e2]; exact h1,by rw[e3]; exact hx.under.le l1⟩)
theorem U0n{V:View}{x y:NumV}{z w:Cq}(hx:QAt V x z)(hy:QAt V y w)(hz:z.sz<=2^40)(hw:w.sz<=2^40) :
 a00 Tryz.prog W0u #[x.val,y.val] V λv V'=>∃r:NumV,v=r.val/\QAt V' r (z-w):=by
 refine w0s x y V _ ((T0n hy).mono λv V1 l1 ⟨r1,hv,h1⟩=>⟨r1,hv,?_⟩)
 rw[M0j]
 exact(U0f (hx.le l1) h1 hz (by rw[e0d]; exact hw)).mono λv V2 _ ⟨r,hv,hr⟩=>⟨r,hv,r,rfl,hr⟩
theorem K0b{V:View}{x y:NumV}{z w:Cq}(hx:QAt V x z)(hy:QAt V y w)(hz:z.sz<=2^40)(hw:w.sz<=2^40) :
 a00 Tryz.prog K0u #[x.val,y.val] V λv V'=>∃r:NumV,v=r.val/\QAt V' r (z*w):=by
 have zA:=Cq.wA hz; have zB:=Cq.wB hz; have zD:=Cq.wD hz
 have wA:=Cq.wA hw; have wB:=Cq.wB hw; have wD:=Cq.wD hw
 have s1:=Y03 zA wA; have s2:=Y03 zB wB; have s2':=s0y s2; have s3:=Y03 zA wB; have s4:=Y03 zB wA
 have s5:=G0b s1 s2'; have s6:=G0b s3 s4
 rw[<-Int.sub_eq_add_neg]at s5
 have s7:=z08 z.D w.D
 refine t0s x y V _ ((o02 hx.re hy.re (by omega) (by omega)).mono λv V1 l1 ⟨r1,hv,h1⟩=>⟨r1,hv,?_⟩)
 replace hx:=hx.le l1; replace hy:=hy.le l1
 refine(o02 hx.im hy.im (by omega) (by omega)).mono λv V2 l2 ⟨r2,hv,h2⟩=>⟨r2,hv,?_⟩
 replace hx:=hx.le l2; replace hy:=hy.le l2; replace h1:=h1.le l2
 refine(L0h h1 h2 (by omega) (by omega)).mono λv V4 l4 ⟨r4,hv,h4⟩=>⟨r4,hv,?_⟩
 replace hx:=hx.le l4; replace hy:=hy.le l4
 refine(o02 hx.re hy.im (by omega) (by omega)).mono λv V5 l5 ⟨r5,hv,h5⟩=>⟨r5,hv,?_⟩
 replace hx:=hx.le l5; replace hy:=hy.le l5; replace h4:=h4.le l5
 refine(o02 hx.im hy.re (by omega) (by omega)).mono λv V6 l6 ⟨r6,hv,h6⟩=>⟨r6,hv,?_⟩
 replace hx:=hx.le l6; replace hy:=hy.le l6; replace h4:=h4.le l6; replace h5:=h5.le l6
 refine(S06 h5 h6 (by omega) (by omega)).mono λv V7 l7 ⟨r7,hv,h7⟩=>⟨r7,hv,?_⟩
 replace hx:=hx.le l7; replace hy:=hy.le l7; replace h4:=h4.le l7
 refine(P06 hx.under hy.under (by omega) (by omega)).mono λv V10 l10 ⟨r10,hv,h10⟩=>⟨r10,hv,?_⟩
 exact(B04 (h4.le l10) (h7.le l10) h10 (z.canon.rep.mul w.canon.rep) (by omega) (by omega) (by omega)).mono λv V11 _ ⟨r,hv,hr⟩=>⟨r,hv,r,rfl,hr⟩
theorem E0q{V:View}{x:WhV}{a:Int}(h:d02 V x a):x.mag.len=0↔a=0:=by
 have:=h.2.len_zero
 rw[this]; omega
theorem O05{V:View}{x:NumV}{z:Cq}(hx:QAt V x z):a00 Tryz.prog A0r #[x.val] V λv _=>v = .int .i64 (cmpR z.re 0):=by
 have h0:=E0q hx.re
 have h1:=hx.re.1
 have hD:=z.D_pos
 have hc:cmpR z.re 0=cmpZ z.A 0:=by
  have:=E0x (A:=z.A) (A':=0) (D:=z.D) (D':=1) hD (by omega)
  rw[<-z.canon.rep.re]at this
  rw[show((0:Int):Rat) / ((1:Nat):Rat)=0 by rw[Rat.div_def]; simp]at this
  rw[<-this]; simp
 refine z0p x V _ ⟨λh => ?_,λh=>⟨λhp => ?_,λhp => ?_⟩⟩
 . have:z.A<0:=by rw[h]at h1; simpa using h1.symm
   rw[hc,s0n this]
 . have hn:¬z.A<0:=by rw[h]at h1; simpa using h1.symm
   have:x.re.mag.len≠0:=by intro e; rw[e]at hp; simp at hp
   have:z.A≠0:=λe=>this (h0.2 e)
   rw[hc,u0n (by omega)]
 . have:x.re.mag.len=0:=by have:¬(0:Int)<x.re.mag.len:=(by simpa using hp); omega
   rw[hc,t0n (h0.1 this)]
structure BqAt (V:View) (b:BdV) (e:Eb):Prop where
 inf:b.inf=e.inf
 num:QAt V b.x e.num
 ok:e.ok
theorem BqAt.le{V V':View}{b:BdV}{e:Eb}(hle:V.le V')(h:BqAt V b e):BqAt V' b e:=⟨h.inf,h.num.le hle,h.ok⟩
theorem w10(a b:Rat):(⟨a,0⟩:Cq)*⟨b,0⟩=⟨a*b,0⟩:=Cq.ext' (by rw[p03]; grind) (by rw[q03]; grind)
theorem T0t(a b:Rat):(⟨a,0⟩:Cq)+⟨b,0⟩=⟨a+b,0⟩:=Cq.ext' (by rw[x05]) (by rw[y05]; grind)
theorem y10(a b:Rat):(⟨a,0⟩:Cq) - ⟨b,0⟩=⟨a-b,0⟩:=Cq.ext' (by rw[k05]) (by rw[l05]; grind)
theorem z10(a:Rat) : -(⟨a,0⟩:Cq)=⟨-a,0⟩:=Cq.ext' (by rw[G07]) (by rw[H07]; grind)
theorem C04{V:View}{x:NumV}{q:Rat}(hx:QAt V x ⟨q,0⟩):a00 Tryz.prog d0x #[x.val] V λv V'=>∃b:BdV,v=b.val/\BqAt V' b ⟨0,q⟩ :=
 I0v x V _ ⟨_,rfl,rfl,hx,.inl rfl⟩
theorem g0a{V:View}{x:NumV}{z:Cq}(h:QAt V x z)(hz:z.sz<=2^40):a00 Tryz.prog f0x #[x.val] V λv V'=>∃r:NumV,v=r.val/\QAt V' r ⟨z.im,0⟩:=by
 have zA:=Cq.wA hz; have zB:=Cq.wB hz; have zD:=Cq.wD hz
 have hr:=z.canon.rep
 exact H0v x V _ ((B04 h.im (d02.zero V) h.under (z:=⟨z.im,0⟩) ⟨hr.pos,hr.im,by simp[Rat.div_def]⟩ (by omega) (by rw[Int.natAbs_zero,w06]; omega) (by omega)).mono λv V' _ ⟨r,hv,hq⟩=>⟨r,hv,r,rfl,hq⟩)
theorem W0n{V:View}{x y:NumV}{a b:Rat}(hx:QAt V x ⟨a,0⟩)(hy:QAt V y ⟨b,0⟩)(hz:(⟨a,0⟩:Cq).sz<=2^38)(hw:(⟨b,0⟩:Cq).sz<=2^38) :
 a00 Tryz.prog M0u #[x.val,y.val] V λv _=>v = .int .i64 (cmpR a b):=by
 have e0:cmpR (a-b) 0=cmpR a b:=by
  unfold cmpR
  by_cases h:a<b
  . rw[if_pos h,if_pos (by grind)]
  . rw[if_neg h,if_neg (by grind)]
    by_cases g:a=b
    . rw[if_pos g,if_pos (by grind)]
    . rw[if_neg g,if_neg (by grind)]
 have z0:cmpR (0:Rat) 0=0:=by unfold cmpR; rw[if_neg (by grind),if_pos rfl]
 have s:=f0b (⟨a,0⟩:Cq) (-(⟨b,0⟩:Cq))
 refine o0s x y V _ ((U0n hx hy (by omega) (by omega)).mono λv V1 l1 ⟨d,hv,hd⟩=>⟨d,hv,?_⟩)
 rw[y10]at hd
 refine(O05 hd).mono λv V2 l2 hv=>⟨_,hv,λhc => ?_,λhc => ?_⟩
 . show Value.int .i64 (cmpR (a-b) 0)=_; rw[e0]
 . have hc:cmpR (a-b) 0=0:=by simpa using hc
   have ds:(⟨a-b,0⟩:Cq).sz<=2^40:=by
    have e1:(⟨a-b,0⟩:Cq)=(⟨a,0⟩:Cq)+⟨-b,0⟩:=by rw[T0t]; congr 1; grind
    have h1:=f0b (⟨a,0⟩:Cq) ⟨-b,0⟩
    have h2:(⟨-b,0⟩:Cq).sz=(⟨b,0⟩:Cq).sz:=by rw[<-z10,e0d]
    rw[e1]; omega
   refine(g0a (hd.le l2) ds).mono λv V3 l3 ⟨r,hv,hr⟩=>⟨r,hv,(O05 hr).mono λv V4 _ hv=>⟨_,hv,?_⟩⟩
   show Value.int .i64 (cmpR 0 0)=_
   rw[z0,<-e0,hc]
theorem W0f{V:View}{a b:BdV}{e f:Eb}(ha:BqAt V a e)(hb:BqAt V b f)(hz:e.num.sz<=2^38)(hw:f.num.sz<=2^38) :
 a00 Tryz.prog i0v #[a.val,b.val] V λv _=>v = .int .i64 (e.cmp f):=by
 refine p0s a b V _ ⟨λh=>⟨λg => ?_,λg => ?_⟩,λh=>⟨λg => ?_,λg => ?_⟩⟩
 . have g:e.inf<f.inf:=by rw[<-ha.inf,<-hb.inf]; simpa using g
   rw[Eb.cmp_neg1.2 (.inl g)]
 . have h:e.inf≠f.inf:=by rw[<-ha.inf,<-hb.inf]; simpa using h
   have g:¬e.inf<f.inf:=by rw[<-ha.inf,<-hb.inf]; simpa using g
   rw[Eb.cmp_1.2 (.inl (by omega))]
 . have h:e.inf=f.inf:=by rw[<-ha.inf,<-hb.inf]; simpa using h
   have g:e.inf≠0:=by rw[<-ha.inf]; simpa using g
   have r:=Eb.cmp_range e f
   have n1:¬e.cmp f = -1:=λc=>by
    rcases Eb.cmp_neg1.1 c with p|⟨p,_⟩
    . omega
    . exact g p
   have n2:¬e.cmp f=1:=λc=>by
    rcases Eb.cmp_1.1 c with p|⟨_,p,_⟩
    . omega
    . exact g p
   have:e.cmp f=0:=by omega
   rw[this]
 . have h:e.inf=f.inf:=by rw[<-ha.inf,<-hb.inf]; simpa using h
   have g:e.inf=0:=by rw[<-ha.inf]; simpa using g
   refine(W0n ha.num hb.num hz hw).mono λv V1 _ hv=>⟨_,hv,?_⟩
   unfold Eb.cmp; rw[if_neg (by omega)]
theorem i08{V:View}{a:BdV}{e:Eb}(ha:BqAt V a e):a00 Tryz.prog q0e #[a.val] V λv _=>v = .int .i64 e.sign:=by
 refine u0p a V _ ⟨λh => ?_,λh => ?_⟩
 . have h:e.inf≠0:=by rw[<-ha.inf]; simpa using h
   rw[ha.inf]
   rcases e0t ha.ok with r|r|r
   . exact absurd r h
   . rw[(E0d h).2 (by omega),r]
   . rw[(E0d h).1 (by omega),r]
 . have h:e.inf=0:=by rw[<-ha.inf]; simpa using h
   refine(O05 ha.num).mono λv V1 _ hv=>⟨_,hv,?_⟩
   show Value.int .i64 (cmpR e.x 0) = .int .i64 (Eb.cmp e (Eb.fin 0))
   have z:(Eb.fin 0).inf=0:=rfl
   unfold Eb.cmp; rw[if_neg (by omega)]; rfl
theorem j08{V:View}{a b:BdV}{e f:Eb}(ha:BqAt V a e)(hb:BqAt V b f)(hz:e.num.sz<=2^40)(hw:f.num.sz<=2^40) :
 a00 Tryz.prog I0r #[a.val,b.val] V λv V'=>∃c:BdV,v=c.val/\BqAt V' c (e.add f):=by
 refine w0p a b V _ ⟨λh => ?_,λh=>⟨λg => ?_,λg => ?_⟩⟩
 . have h:e.inf≠0:=by rw[<-ha.inf]; simpa using h
   exact⟨a,rfl,by unfold Eb.add; rw[if_pos h]; exact ha⟩
 . have h:¬e.inf≠0:=by rw[<-ha.inf]; simpa using h
   have g:f.inf≠0:=by rw[<-hb.inf]; simpa using g
   exact⟨b,rfl,by unfold Eb.add; rw[if_neg h,if_pos g]; exact hb⟩
 . have h:¬e.inf≠0:=by rw[<-ha.inf]; simpa using h
   have g:¬f.inf≠0:=by rw[<-hb.inf]; simpa using g
   refine(U0f ha.num hb.num hz hw).mono λv V1 _ ⟨r,hv,hr⟩=>⟨r,hv,?_⟩
   have e1:e.num+f.num=⟨e.x+f.x,0⟩:=T0t e.x f.x
   rw[e1]at hr
   refine(C04 hr).mono λv V2 _ ⟨c,hv,hc⟩=>⟨c,hv,c,rfl,?_⟩
   unfold Eb.add; rw[if_neg h,if_neg g]; exact hc
theorem BqAt.zero{V:View}{r:NumV}(h:QAt V r ⟨((0:Int):Rat),0⟩){i:Int}(hi:(⟨i,0⟩:Eb).ok):BqAt V (BdV.mk i r) ⟨i,0⟩:=⟨rfl,by rw[Rat.intCast_zero]at h; exact h,hi⟩
theorem d0g(e:Eb):e.sign = -1\/e.sign=0\/e.sign=1:=Eb.cmp_range e (Eb.fin 0)
theorem K0l{e f:Eb}(h:e.inf≠0\/f.inf≠0):e.mul f=⟨e.sign*f.sign,0⟩:=by
 unfold Eb.mul; rw[if_neg (by omega)]
theorem P0y{e:Eb}(h:e.sign=0):e.inf=0/\e.x=0:=by
 have z:e.inf=0:=by
  refine Classical.byContradiction λc => ?_
  have:=E0d c
  rcases Int.lt_trichotomy e.inf 0 with p|p|p
  . rw[this.1 p]at h; exact absurd h (by decide)
  . exact c p
  . rw[this.2 p]at h; exact absurd h (by decide)
 refine⟨z,?_⟩
 have a1:¬Eb.LT e (Eb.fin 0):=λc=>by rw[<-Eb.cmp_neg1]at c; have:e.sign = -1:=c; omega
 have a2:¬Eb.LT (Eb.fin 0) e:=λc=>by rw[<-Eb.cmp_1]at c; have:e.sign=1:=c; omega
 have:=Eb.LT.tri (.inl z) (.inl rfl) a1 a2
 rw[this]; rfl
theorem L0l{e f:Eb}(h:e.sign=0):e.mul f=⟨0,0⟩:=by
 obtain⟨z,x⟩:=P0y h
 by_cases c:f.inf=0
 . unfold Eb.mul; rw[if_pos ⟨z,c⟩,x]; congr 1; grind
 . rw[K0l (.inr c),h,Int.zero_mul]
theorem W0c{V:View}{a b:BdV}{e f:Eb}(ha:BqAt V a e)(hb:BqAt V b f)(hz:e.num.sz<=2^40)(hw:f.num.sz<=2^40) :
 a00 Tryz.prog W0o #[a.val,b.val] V λv V'=>∃c:BdV,v=c.val/\BqAt V' c (e.mul f):=by
 have whole:∀ {V:View},a00 Tryz.prog W09 #[.int .i64 0] V λv V'=>∃r:NumV,v=r.val/\QAt V' r ⟨((0:Int):Rat),0⟩:=j06 (by omega) (by omega)
 have s1:=d0g e; have s2:=d0g f
 refine Y0m a b V _ ((i08 ha).mono λv V1 l1 hv=>⟨_,hv,λh => ?_,λh => ?_⟩)
 . have h:e.sign=0:=by simpa using h
   refine whole.mono λv V2 l2 ⟨r,hv,hr⟩=>⟨r,hv,?_⟩
   rw[Rat.intCast_zero]at hr
   exact(C04 hr).mono λv V3 _ ⟨c,hv,hc⟩=>⟨c,hv,c,rfl,by rw[L0l h]; exact hc⟩
 have h:e.sign≠0:=by simpa using h
 refine(i08 (hb.le l1)).mono λv V4 l4 hv=>⟨_,hv,λg => ?_,λg => ?_⟩
 . have g:f.sign=0:=by simpa using g
   refine whole.mono λv V5 l5 ⟨r,hv,hr⟩=>⟨r,hv,?_⟩
   rw[Rat.intCast_zero]at hr
   exact(C04 hr).mono λv V6 _ ⟨c,hv,hc⟩=>⟨c,hv,c,rfl,by rw[Eb.mul_comm,L0l g]; exact hc⟩
 have g:f.sign≠0:=by simpa using g
 replace ha:=ha.le (View.le_trans l1 l4); replace hb:=hb.le (View.le_trans l1 l4)
 have wr:i64.wrap (e.sign*f.sign)=e.sign*f.sign:=by
  rcases s1 with p|p|p<;>rcases s2 with q|q|q<;>rw[p,q]<;>decide
 have ok:(⟨e.sign*f.sign,0⟩:Eb).ok:=by
  refine .inr ⟨rfl,?_⟩
  rcases s1 with p|p|p<;>rcases s2 with q|q|q<;>first|exact absurd p h|exact absurd q g|(show e.sign*f.sign=1\/e.sign*f.sign = -1; rw[p,q]; decide)
 have inf:∀ {V:View} {a' b':BdV},(e.inf≠0\/f.inf≠0)->BqAt V a e->BqAt V b f->a00 Tryz.prog q0e #[a.val] V λv V7=>∃r7:Int,v = .int .i64 r7/\a00 Tryz.prog q0e #[b.val] V7 λv V8=>∃r8:Int,v = .int .i64 r8 /\
  a00 Tryz.prog W09 #[.int .i64 0] V8 λv V9=>∃r9:NumV,v=r9.val/\∃c:BdV,(BdV.mk (i64.wrap (r7*r8)) r9).val=c.val/\BqAt V9 c (e.mul f):=by
  intro V _ _ hi ha hb
  refine(i08 ha).mono λv V7 l7 hv=>⟨_,hv,(i08 (hb.le l7)).mono λv V8 l8 hv=>⟨_,hv,whole.mono λv V9 _ ⟨r,hv,hr⟩=>⟨r,hv,_,rfl,?_⟩⟩⟩
  rw[wr,K0l hi]; exact .zero hr ok
 refine⟨λi => ?_,λi=>⟨λj => ?_,λj => ?_⟩⟩
 . exact inf (a':=a) (b':=b) (.inl (by rw[<-ha.inf]; simpa using i)) ha hb
 . exact inf (a':=a) (b':=b) (.inr (by rw[<-hb.inf]; simpa using j)) ha hb
 . have i:e.inf=0:=by rw[<-ha.inf]; simpa using i
   have j:f.inf=0:=by rw[<-hb.inf]; simpa using j
   refine(K0b ha.num hb.num hz hw).mono λv V13 _ ⟨r,hv,hr⟩=>⟨r,hv,?_⟩
   have e1:e.num*f.num=⟨e.x*f.x,0⟩:=w10 e.x f.x
   rw[e1]at hr
   refine(C04 hr).mono λv V14 _ ⟨c,hv,hc⟩=>⟨c,hv,c,rfl,?_⟩
   unfold Eb.mul; rw[if_pos ⟨i,j⟩]; exact hc
theorem q0h{V:View}{s:Sl}{a:Nat}(hs:o00 V s a)(ha:wn a<=2^45) :
 a00 Tryz.prog u0x #[s.v] V λv V'=>v = .int .i64 (bl a:Nat):=by
 have hsl:=hs.len
 have hwn:wn a=s.len:=by simp only[wn]; exact hsl.symm
 refine L0v s V _ ⟨λh => ?_,λh => ?_⟩
 . have h:(s.len:Int)=0:=by simpa using h
   have:a=0:=P04.1 (by omega)
   subst this; rfl
 . have h:¬(s.len:Int)=0:=by simpa using h
   have ha0:a≠0:=by rintro rfl; rw[w06]at hwn; omega
   rw[i64w (n:=(s.len:Int)-1) (by omega) (by omega)]
   have e:Int.toNat ((s.len:Int)-1)=wn a-1:=by omega
   refine⟨⟨by omega,by omega,hs.isSome (by omega)⟩,_,hs.get (by omega) (by omega),?_⟩
   rw[e]
   have hw:=(X03 a).getD (wn a-1)
   refine(Q0c hw).mono λv V' _ hv=>⟨_,hv,?_⟩
   have h2:=b12 ha0
   have h3:bl ((dig a).getD (wn a-1) 0)<=32:=by
    have h3:=(P07 ha0).2.2
    have:=I0d h3
    have:=(Nat.pow_lt_pow_iff_right (a:=2) (n:=bl ((dig a).getD (wn a-1) 0)-1) (m:=32) (by omega)).1 (by omega)
    omega
   rw[i64w (n:=32*_) (by omega) (by omega),i64w (by omega) (by omega)]
   congr 1
   omega
def quo(n d:Nat)(l:Int):Nat:=n*2^(max (-l) 0).toNat / (d*2^(max l 0).toNat)
theorem i11(a b:Int):(if a>b then a else b)=max a b:=by split<;>omega
theorem s12{t:Nat}(h:t<=2045)(h':t≠2045):t*2^52+2^53<infR:=by unfold infR; omega
theorem u12{t m:Nat}(h:t<=2045)(hm:m<=2^53)(h':m≠2^53):t*2^52+m<infR:=by unfold infR; omega
theorem A10{L:Int}{t:Nat}(h:(t:Int)=L+1074)(h2:L≠971):t≠2045:=by omega
theorem U0t{L:Int}{t:Nat}(h:(t:Int)=L+1074)(h2:t<=2045) : -1074<=L/\L<=2^40:=by omega
structure Rnd (way:Int) (r n d:Nat):Prop where
 down:way=0->j05 r n d
 up:way=1->IsUp r n d
 any:j05 r n d\/IsUp r n d
theorem M0l{V:View}{sn sd:Sl}{n d:Nat}(way:Int)(hn:o00 V sn n)(hd:o00 V sd d)(d0:0<d)(zn:bl n<=2^30)(zd:bl d<=2^30) :
 a00 Tryz.prog u0c #[(H0a.mk 53 (-1074) 1023).val,sn.v,sd.v,.int .i64 way] V λv _=>∃r:Nat,v = .float .f64 r/\Rnd way r n d:=by
 have wn44:wn n<=2^43:=j09 (by omega)
 have wd44:wn d<=2^43:=j09 (by omega)
 refine e0n (H0a.mk 53 (-1074) 1023) sn sd way V _ (λ_ x _=>Mag n d x.t9 /\ -(2^31:Int)<=x.t9/\x.t9<=2^31)
  (λc x _=>∃i:Nat,x.t82=i/\i<=c.t80.len/\x.t14=((wval ((dig (quo n d c.t10)).take i):Nat):Int)) (λc x _=>(c.t81-x.t82).toNat)
  (λc x _=>∃m r t:Nat,x.t14=m/\m<=2^53/\(t:Int)=c.t10+1074/\t<=2045/\r=t*2^52+m/\rm r=m*2^t/\Rnd way r n d)
  (λc _ _=>∃m r t:Nat,c.t14=m/\m<=2^53/\(t:Int)=c.t10+1074/\t<=2045/\r<infR/\r=t*2^52+m/\rm r=m*2^t/\Rnd way r n d) ?_
 refine⟨λh0 => ?_,λh0 => ?_⟩
 . have hl:sn.len=0:=by have:(sn.len:Int)=0:=(by simpa using h0); omega
   have n0:n=0:=hn.len_zero.1 hl
   subst n0
   refine⟨0,rfl,λ_=>j05.zero d0,λ_=>IsUp.zero _,.inr (IsUp.zero _)⟩
 have hl:sn.len≠0:=by have:¬(sn.len:Int)=0:=(by simpa using h0); omega
 have n0:n≠0:=λe=>hl (hn.len_zero.2 e)
 refine(q0h hn (Nat.le_trans wn44 (by decide))).mono λv V1 l1 hv=>⟨_,hv,?_⟩
 refine(q0h (hd.le l1) (Nat.le_trans wd44 (by decide))).mono λv V2 l2 hv=>⟨_,hv,?_⟩
 have hn2:=hn.le (View.le_trans l1 l2)
 have hd2:=hd.le (View.le_trans l1 l2)
 have w0:i64.wrap ((bl n:Nat)-(bl d:Nat):Int)=(bl n:Int)-bl d:=i64w (by omega) (by omega)
 have w1:i64.wrap (0-((bl n:Int)-bl d))=(bl d:Int)-bl n:=by rw[i64w (by omega) (by omega)]; omega
 rw[w0,w1,i11,i11]
 obtain⟨A,hA⟩:∃A:Nat,(A:Int)=max 0 ((bl d:Int)-bl n):=⟨(max 0 ((bl d:Int)-bl n)).toNat,by omega⟩
 obtain⟨B,hB⟩:∃B:Nat,(B:Int)=max 0 ((bl n:Int)-bl d):=⟨(max 0 ((bl n:Int)-bl d)).toNat,by omega⟩
 rw[<-hA,<-hB]
 have hmag:=U0l (n:=n) (d:=d) (x:=bl n) (y:=bl d) (A:=A) (B:=B) (I0d n0) (y0e n) (I0d (by omega)) (y0e d) (s0f n0) (s0f (by omega)) (by omega)
 refine⟨?_,?_⟩
 . refine(z04 hn2 (Nat.le_trans wn44 (by decide)) (by omega)).mono λv V4 l4 ⟨s1,hv,hs1⟩=>⟨s1,hv,?_⟩
   refine(z04 (hd2.le l4) (Nat.le_trans wd44 (by decide)) (by omega)).mono λv V5 l5 ⟨s2,hv,hs2⟩=>⟨s2,hv,?_⟩
   have wb:wn (n*2^A)<=2^50:=j09 (by
    have a1:=Z0d n (2^A)
    have a2:=s06 A
    omega)
   refine(C08 (hs1.le l5) hs2 wb).mono λv V6 l6 hv=>⟨_,hv,λhc => ?_,λhc => ?_⟩
   . simp only[decide_eq_true_eq]at hc
     have lt:n*2^A<d*2^B:=by
      rcases Nat.lt_or_ge (n*2^A) (d*2^B)with g|g
      . exact g
      . exfalso; rw[if_neg (by omega)]at hc; split at hc<;>omega
     have e:i64.wrap ((bl n:Int)-bl d-1)=(B:Int)-A-1:=by rw[i64w (by omega) (by omega)]; omega
     show Mag n d (i64.wrap _)/\_<=(i64.wrap _:Int)/\(i64.wrap _:Int)<=_
     rw[e]; exact⟨hmag.1 lt,by omega,by omega⟩
   . simp only[decide_eq_false_iff_not]at hc
     have ge:d*2^B<=n*2^A:=by
      rcases Nat.lt_or_ge (n*2^A) (d*2^B)with g|g
      . exfalso; rw[if_pos g]at hc; omega
      . exact g
     have e:(bl n:Int)-bl d=(B:Int)-A:=by omega
     show Mag n d ((bl n:Int)-bl d)/\_<=((bl n:Int)-bl d)/\((bl n:Int)-bl d)<=_
     rw[e]; exact⟨hmag.2 ge,by omega,by omega⟩
 rintro⟨e⟩ V3 l3 ⟨hM,he1,he2⟩
 have hM:Mag n d e:=hM
 have he1 : -(2^31:Int)<=e:=he1
 have he2:e<=(2^31:Int):=he2
 dsimp only
 refine⟨λhc => ?_,λhc => ?_⟩
 . simp only[decide_eq_true_eq]at hc
   have hov:=hM.over (by omega)
   have hrm:rm (infR-1)=(2^53-1)*2^2045:=n13 (r:=infR-1) (e:=2045) (by decide)
   refine⟨λhw=>⟨by omega,?_⟩,λhw => ?_⟩
   . have hw:way=0:=by simpa using hw
     have k1:u64.wrap (u64.wrap (1*2^(min (Int.toNat 53) (IntKind.bits .u64)))-1)=((2^53-1:Nat):Int):=by decide
     have k2:i64.wrap (i64.wrap (1023-53)+1)=971:=by decide
     rw[k1,k2]
     have k3:(971+1074:Int).toNat=2045:=by decide
     refine(F0l (n:=2^53-1) (r:=infR-1) (s:=971) (by omega) (by omega) (by omega) (by omega) (by decide) (by rw[k3]; exact hrm)).mono λv V7 _ hv=>⟨_,hv,_,rfl,?_⟩
     have hD:j05 (infR-1) n d:=⟨by decide,Nat.le_trans (Nat.mul_le_mul_right d (H0c.2 (by omega))) hov,.inl (by decide)⟩
     exact⟨λ_=>hD,λh=>by omega,.inl hD⟩
   . have hw:way≠0:=by simpa using hw
     refine D0l.mono λv V8 _ hv=>⟨_,hv,_,rfl,?_⟩
     have hU:IsUp infR n d:=⟨Nat.le_refl _,.inl rfl,.inr (Nat.lt_of_lt_of_le (Nat.mul_lt_mul_of_pos_right (x0n (by decide)) d0) hov)⟩
     exact⟨λh=>absurd h hw,λ_=>hU,.inr hU⟩
 . simp only[decide_eq_false_iff_not]at hc
   have k0:i64.wrap (i64.wrap (e-53)+1)=e-52:=by
    rw[i64w (n:=e-53) (by omega) (by omega),i64w (by omega) (by omega)]; omega
   obtain⟨L,hL⟩:∃L,L=max (e-52) (-1074):=⟨_,rfl⟩
   have kL:(if(-1074:Int)>e-52 then(-1074:Int)else e-52)=L:=by split<;>omega
   rw[k0,kL]
   have k1:i64.wrap (0-L) = -L:=by rw[i64w (by omega) (by omega)]; omega
   rw[k1]
   obtain⟨a,ha⟩:∃a:Nat,(a:Int)=max (-L) 0:=⟨(max (-L) 0).toNat,by omega⟩
   obtain⟨b,hb⟩:∃b:Nat,(b:Int)=max L 0:=⟨(max L 0).toNat,by omega⟩
   obtain⟨t,ht⟩:∃t:Nat,(t:Int)=L+1074:=⟨(L+1074).toNat,by omega⟩
   have kb:(if(0:Int)>L then(0:Int)else L)=(b:Int):=by split<;>omega
   have ka:(if(0:Int) > -L then(0:Int)else -L)=(a:Int):=by split<;>omega
   rw[kb,ka]
   have hquo:quo n d L=n*2^a / (d*2^b):=by
    unfold quo
    have e1:(max (-L) 0).toNat=a:=by omega
    have e2:(max L 0).toNat=b:=by omega
    rw[e1,e2]
   obtain⟨hq53,hq52,ht5,hr0,hdown,hup0,hup1,hr1⟩:=A0g d0 hM (by omega) hL ha hb rfl ht
   rw[<-hquo]at hq53 hq52 hr0 hdown hup0 hup1 hr1
   have bn:bl (n*2^a)<=2^31:=by
    have a1:=Z0d n (2^a)
    have a2:=s06 a
    omega
   have bd:bl (d*2^b)<=2^31:=by
    have a1:=Z0d d (2^b)
    have a2:=s06 b
    omega
   have hub:0<d*2^b:=Nat.mul_pos d0 (f06 b)
   refine(z04 (hd2.le l3) (Nat.le_trans wd44 (by decide)) (by omega)).mono λv V9 l9 ⟨u,hv,hu⟩=>⟨u,hv,?_⟩
   refine(z04 (hn2.le (View.le_trans l3 l9)) (Nat.le_trans wn44 (by decide)) (by omega)).mono λv V10 l10 ⟨s,hv,hs⟩=>⟨s,hv,?_⟩
   refine(E08 hs (hu.le l10) (j09 (by omega)) (by omega)).mono λv V11 l11 ⟨q,r,hv,hq,hr⟩=>⟨q,r,hv,⟨0,rfl,by omega,by simp[wval]⟩,?_⟩
   rw[<-hquo]at hq
   generalize hQ:quo n d L=Q at hq53 hq52 hr0 hdown hup0 hup1 hr1 hq
   have hql:q.len=(dig Q).length:=hq.len
   have hq2:q.len<=2:=by
    have:wn Q<=2:=j09 (by have:bl Q<=53:=j02 hq53; omega)
    simp only[wn]at this; omega
   rintro⟨y,i'⟩ V12 l12 ⟨i,hi,hil,hy⟩
   have hi:i'=(i:Int):=hi
   have hil:i<=q.len:=hil
   have hy:y=((wval ((dig Q).take i):Nat):Int):=hy
   subst hi; subst hy
   dsimp only
   have hwl:∀j,j<=q.len->wval ((dig Q).take j)<4294967296^j:=by
    intro j hj
    have:=w0e (l:=(dig Q).take j) (λd hd=>X03 Q d (List.mem_of_mem_take hd))
    rw[List.length_take,Nat.min_eq_left (by omega)]at this
    exact this
   refine⟨λhlt => ?_,λhge => ?_⟩
   . simp only[decide_eq_true_eq]at hlt
     have hi':i<q.len:=by omega
     have w32:i64.wrap (32*(i:Int))=((32*i:Nat):Int):=by rw[i64w (by omega) (by omega)]; omega
     rw[w32]
     refine⟨⟨by omega,by omega,hq.isSome (by omega)⟩,_,(hq.le l12).get (by omega) (by omega),by omega,?_⟩
     rw[Int.toNat_natCast,Int.toNat_natCast]
     have hg:=(X03 Q).getD i
     generalize hwd:(dig Q).getD i 0=w at hg
     have hyl:=hwl i (by omega)
     have hyl2:=hwl (i+1) (by omega)
     rw[C00,hwd]at hyl2
     generalize hyy:wval ((dig Q).take i)=y at hyl hyl2
     have e4:4294967296^i=2^(32*i):=by rw[show(4294967296:Nat)=2^32 from rfl,<-Nat.pow_mul]
     have hmin:min (32*i) u64.bits=32*i:=Nat.min_eq_left (by show 32*i<=64; omega)
     have hpow:(2:Int)^(32*i)=((2^(32*i):Nat):Int):=by rw[Int.natCast_pow]; rfl
     have hle:4294967296^(i+1)<=18446744073709551616:=by
      have:4294967296^(i+1)<=4294967296^2:=Nat.pow_le_pow_right (by omega) (by omega)
      omega
     have hor:=Nat.two_pow_add_eq_or_of_lt (i:=32*i) (b:=y) (by rw[<-e4]; exact hyl) w
     rw[<-e4]at hor
     have hval:u64.wrap (BitVec.toNat ((BitVec.ofInt u64.bits (y:Int)) ||| (BitVec.ofInt u64.bits (u64.wrap ((u64.wrap (w:Int))*2^(min (32*i) (IntKind.bits .u64)))))))=((y+w*4294967296^i:Nat):Int):=by
      have hw64:w*4294967296^i<2^64:=by omega
      rw[hmin,hpow,<-e4,C07 (y:=w) (by omega),<-Int.natCast_mul,C07 hw64,E0l (by omega) hw64]
      congr 1
      rw[Nat.or_comm,Nat.mul_comm w,<-hor]; omega
     rw[hval]
     refine⟨⟨i+1,?_,by show i+1<=q.len; omega,?_⟩,?_⟩
     . show i64.wrap ((i:Int)+1)=((i+1:Nat):Int)
       rw[i64w (by omega) (by omega)]; omega
     . show((y+w*4294967296^i:Nat):Int)=((wval ((dig Q).take (i+1)):Nat):Int)
       rw[C00,hwd,hyy]
     . show((q.len:Int)-i64.wrap ((i:Int)+1)).toNat<((q.len:Int)-(i:Int)).toNat
       rw[i64w (by omega) (by omega)]; omega
   . simp only[decide_eq_false_iff_not]at hge
     have hiq:wval ((dig Q).take i)=Q:=by rw[d01 (by omega),l01]
     rw[hiq]
     have hr12:=hr.le l12
     have hrb:n*2^a%(d*2^b)<d*2^b:=Nat.mod_lt _ hub
     have hwr:wn (n*2^a%(d*2^b))<=2^43:=Nat.le_trans (H09 (Nat.le_of_lt hrb)) (j09 (by omega))
     refine(z04 (n:=1) hr12 (Nat.le_trans hwr (by decide)) (by omega)).mono λv V13 l13 ⟨s2,hv,hs2⟩=>⟨s2,hv,?_⟩
     have hw2:wn (n*2^a%(d*2^b)*2^1)<=2^50:=by
      have:=z08 (n*2^a%(d*2^b)) (2^1)
      have:wn (2^1)<=2^43:=wn64 (by omega)
      omega
     refine(C08 hs2 (hu.le (View.le_trans l10 (View.le_trans l11 (View.le_trans l12 l13)))) hw2).mono λv V14 l14 hv=>⟨_,hv,?_⟩
     have hrz:r.len=0↔n*2^a%(d*2^b)=0:=hr.len_zero
     have qs:Rnd way (t*2^52+Q) n d->(∃m r t':Nat,(Q:Int)=m/\m<=2^53/\(t':Int)=L+1074/\t'<=2045/\r=t'*2^52+m/\rm r=m*2^t'/\Rnd way r n d) :=
      λh=>⟨Q,_,t,rfl,by omega,ht,ht5,rfl,hr0,h⟩
     have ps:Rnd way (t*2^52+Q+1) n d->(∃m r t':Nat,u64.wrap ((Q:Int)+1)=m/\m<=2^53/\(t':Int)=L+1074/\t'<=2045/\r=t'*2^52+m/\rm r=m*2^t'/\Rnd way r n d) :=
      λh=>⟨Q+1,t*2^52+Q+1,t,by rw[u64w (by omega) (by omega)]; omega,by omega,ht,ht5,by omega,hr1,h⟩
     have notup:way≠1->Rnd way (t*2^52+Q) n d:=λh=>⟨λ_=>hdown,λe=>absurd e h,.inl hdown⟩
     have near:way≠1->way≠0->Rnd way (t*2^52+Q+1) n d\/n*2^a%(d*2^b)=0:=by
      intro h h'
      by_cases z:n*2^a%(d*2^b)=0
      . exact .inr z
      . exact .inl ⟨λe=>absurd e h',λe=>absurd e h,.inr (hup1 z)⟩
     refine⟨⟨λhw => ?_,λhw => ?_⟩,?_⟩
     . have hw:way=1:=by simpa using hw
       refine⟨λhz => ?_,λhz => ?_⟩
       . simp only[decide_eq_true_eq]at hz
         have z:n*2^a%(d*2^b)≠0:=λz=>by have:=hrz.2 z; rw[this]at hz; simp at hz
         exact ps ⟨λh=>absurd (h.symm.trans hw:(0:Int)=1) (by decide),λ_=>hup1 z,.inr (hup1 z)⟩
       . simp only[decide_eq_false_iff_not]at hz
         have z0:r.len=0:=by generalize r.len=k at hz; omega
         have z:=hrz.1 z0
         have g:=qs ⟨λh=>absurd (h.symm.trans hw:(0:Int)=1) (by decide),λ_=>hup0 z,.inl hdown⟩
         refine⟨λh => ?_,λ_=>g⟩
         have h:way=2:=by simpa using h
         exact absurd (h.symm.trans hw:(2:Int)=1) (by decide)
     . have hw:way≠1:=by simpa using hw
       have g:=qs (notup hw)
       refine⟨λh2 => ?_,λ_=>g⟩
       have h2:way=2:=by simpa using h2
       have h20:way≠0:=λe=>absurd (h2.symm.trans e:(2:Int)=0) (by decide)
       have pz:n*2^a%(d*2^b)≠0->(∃m r t':Nat,u64.wrap ((Q:Int)+1)=m/\m<=2^53/\(t':Int)=L+1074/\t'<=2045/\r=t'*2^52+m/\rm r=m*2^t'/\Rnd way r n d) :=
        λz=>ps ⟨λe=>absurd e h20,λe=>absurd e hw,.inr (hup1 z)⟩
       have cmpz:n*2^a%(d*2^b)=0->(if n*2^a%(d*2^b)*2^1<d*2^b then(-1:Int)else if n*2^a%(d*2^b)*2^1=d*2^b then 0 else 1) = -1:=by
        intro z; rw[z,Nat.zero_mul,if_pos hub]
       refine⟨λh3=>pz λz => ?_,λh3=>⟨λh4=>⟨λh5=>pz λz => ?_,λ_=>g⟩,λ_=>g⟩⟩
       . rw[cmpz z]at h3; simp at h3
       . rw[cmpz z]at h4; simp at h4
     rintro⟨x⟩ V15 l15 ⟨m,r,t',hx,hm,ht',ht5',hr',hrm',hR⟩
     have hx:x=(m:Int):=hx
     subst hx
     dsimp only at ht' ⊢
     have htt:t'=t:=by have e:=ht'.trans ht.symm; exact Int.ofNat.inj e
     subst htt
     have k53:u64.wrap (1*2^(min (Int.toNat 53) (IntKind.bits .u64)))=((2^53:Nat):Int):=by decide
     have k971:i64.wrap (i64.wrap (1023-53)+1)=971:=by decide
     rw[k53,k971]
     refine⟨⟨by omega,λh1=>⟨λh2 => ?_,λh2 => ?_⟩,λh1 => ?_⟩,?_⟩
     . have h1:m=2^53:=Int.ofNat.inj (by simpa using h1)
       have h2:L=971:=by simpa using h2
       have hri:r=infR:=by
        rw[hr',h1]
        have:t'=2045:=by rw[h2]at ht'; exact Int.ofNat.inj ht'
        rw[this]; decide
       refine D0l.mono λv V17 _ hv=>⟨_,hv,r,by rw[hri],hR⟩
     . have h1:m=2^53:=Int.ofNat.inj (by simpa using h1)
       have h2:L≠971:=by simpa using h2
       refine⟨m,r,t',rfl,hm,ht',ht5',?_,hr',hrm',hR⟩
       rw[hr',h1]
       exact s12 ht5' (A10 ht' h2)
     . have h1:m≠2^53:=λe=>by rw[e]at h1; simp at h1
       refine⟨m,r,t',rfl,hm,ht',ht5',?_,hr',hrm',hR⟩
       rw[hr']
       exact u12 ht5' hm h1
     rintro _ V16 l16 ⟨m',r',t2,hm1,hm2,ht2,ht3,hri,hre,hrm2,hR2⟩
     have hm1:(m:Int)=m':=hm1
     have hmm:m=m':=Int.ofNat.inj hm1
     subst hmm
     have ht2:(t2:Int)=L+1074:=ht2
     by_cases m0:m=0
     . subst m0
       have r0:r'=0:=i13 (by rw[hrm2,Nat.zero_mul,Y0i])
       refine i0w.mono λv V18 _ hv=>⟨_,hv,r',by rw[r0],hR2⟩
     . refine(F0l (n:=m) (s:=L) (r:=r') m0 hm2 (U0t ht2 ht3).1 (U0t ht2 ht3).2 hri ?_).mono λv V18 _ hv=>⟨_,hv,r',rfl,hR2⟩
       . rw[<-ht2,Int.toNat_natCast]; exact hrm2
theorem w0j(r:Nat):m04 (r:Int)=r:=by unfold m04; rw[if_neg (by omega)]; omega
theorem F0q{r:Nat}(h:0<r):m04 (-(r:Int))=2^63+r:=by unfold m04; rw[if_pos (by omega)]; omega
theorem m0w{V:View}{sn sd:Sl}{n d:Nat}{w:Int}{R:Nat->Prop}(_:n≠0)(_:0<d)
 (h:a00 Tryz.prog u0c #[(H0a.mk 53 (-1074) 1023).val,sn.v,sd.v,.int .i64 w] V λv _=>∃r:Nat,v = .float .f64 r/\(j05 r n d\/IsUp r n d)/\R r) {Q:Value->View->Prop}
 (k:∀r V',R r->r<=infR->(0<r->Q (.float .f64 (2^63+r)) V')/\(r=0->Q (.float .f64 0) V')) :
 a00 Tryz.prog u0c #[(H0a.mk 53 (-1074) 1023).val,sn.v,sd.v,.int .i64 w] V λv V2=>∃r2:Nat,v = .float .f64 r2 /\
  ((FloatKind.f64.format.order r2 0 != some .eq)=true->Q (.float .f64 (Op.negFloat .f64 r2)) V2)/\((FloatKind.f64.format.order r2 0 != some .eq)=false->Q (.float .f64 0) V2):=by
 refine h.mono λv V2 _ ⟨r,hv,hd,hR⟩=>⟨r,hv,?_⟩
 have hr:r<=infR:=by
  rcases hd with h|h
  . exact Nat.le_of_lt h.lt
  . exact h.le
 have hr63:r<2^63:=by unfold infR at hr; omega
 have hok:okW r:=⟨by omega,by rw[Nat.mod_eq_of_lt hr63]; exact hr⟩
 have hkey:key r=(r:Int):=i0j hr63
 have k0:key 0=0:=by decide
 have e:(FloatKind.f64.format.order r 0 != some .eq) = !decide ((r:Int)=0):=by
  show(!(FloatKind.f64.format.order r 0==some .eq))=_
  rw[z0f hok (by decide),hkey,k0]
 rw[e]
 obtain⟨k1,k2⟩:=k r V2 hR hr
 refine⟨λh1 => ?_,λh1 => ?_⟩
 . have h1:r≠0:=λc=>by subst c; simp at h1
   rw[l09 (by omega),if_pos hr63,Nat.add_comm]
   exact k1 (by omega)
 . have h1:r=0:=by
     by_cases c:r=0
     . exact c
     . rw[decide_eq_false (by omega)]at h1; simp at h1
   exact k2 h1
theorem x0j{V:View}{x:WhV}{s:Sl}{A:Int}{D:Nat}{way:Int}(hw:way=0\/way=1)(hx:d02 V x A)(hs:o00 V s D)(D0:0<D)(zA:bl A.natAbs<=2^30)(zD:bl D<=2^30) :
 a00 Tryz.prog x0m #[(H0a.mk 53 (-1074) 1023).val,x.val,s.v,.int .i64 way] V λv _ =>
  v = .float .f64 (m04 (if 0<=A then(if way=0 then(D0b A.natAbs D:Int)else(upK A.natAbs D:Int))else(if way=0 then -(upK A.natAbs D:Int)else -(D0b A.natAbs D:Int)))):=by
 refine z0k (H0a.mk 53 (-1074) 1023) x s way V _ ⟨λh => ?_,λh => ?_⟩
 . have hA:0<=A:=by rw[hx.1]at h; simpa using h
   refine(M0l way hx.2 hs D0 zA zD).mono λv V1 _ ⟨r,hv,hR⟩=>⟨r,hv,?_⟩
   rw[if_pos hA]
   rcases hw with rfl|rfl
   . rw[if_pos rfl,(hR.down rfl).unique D0 (N05 D0),w0j]
   . rw[if_neg (by decide),(hR.up rfl).unique D0 (A07 D0),w0j]
 . have hA:A<0:=by rw[hx.1]at h; simpa using h
   have n0:A.natAbs≠0:=by omega
   have hnA:¬0<=A:=by omega
   refine⟨λ_ => ?_,λh2 => ?_⟩
   . have hw2:i64.wrap (1-way)=1-way:=i64w (by omega) (by omega)
     rw[hw2,if_neg hnA]
     refine m0w (Q:=λv _=>v = .float .f64 (m04 (if way=0 then -(upK A.natAbs D:Int)else -(D0b A.natAbs D:Int)))) (R:=λr=>Rnd (1-way) r A.natAbs D) n0 D0 ((M0l (1-way) hx.2 hs D0 zA zD).mono λv V1 _ ⟨r,hv,hR⟩=>⟨r,hv,hR.any,hR⟩) λr V' hR hr => ?_
     have hrv:(r:Int)=if way=0 then(upK A.natAbs D:Int)else(D0b A.natAbs D:Int):=by
      rcases hw with rfl|rfl
      . rw[if_pos rfl,(hR.up (by decide)).unique D0 (A07 D0)]
      . rw[if_neg (by decide),(hR.down (by decide)).unique D0 (N05 D0)]
     have e:(if way=0 then -(upK A.natAbs D:Int)else -(D0b A.natAbs D:Int)) = -(r:Int):=by
      rw[hrv]; split<;>rfl
     rw[e]
     refine⟨λh0 => ?_,λh0 => ?_⟩
     . rw[F0q h0]
     . rw[h0]; rfl
   . exfalso
     have h2:way=2:=by simpa using h2
     omega
theorem W0t(z:Cq):z.re.num*(z.D:Int)=z.A*(z.re.den:Int):=by
 have h:=z.canon.rep
 have h1:((z.re.num:Int):Rat) / ((z.re.den:Nat):Rat)=(z.A:Rat) / (z.D:Rat):=by
  rw[<-h.re,<-Rat.mkRat_eq_div]; exact Rat.mkRat_self z.re
 exact(D02 z.re.den_nz h.pos).1 h1
theorem X0c(z:Cq):0<=z.A↔0<=z.re.num:=by
 have h:=W0t z
 have h1:(0:Int)<(z.D:Int):=by have:=z.canon.rep.pos; omega
 have h2:(0:Int)<(z.re.den:Int):=by have:=z.re.den_nz; omega
 constructor
 . intro g
   refine Int.not_lt.1 λc => ?_
   have a:=Int.mul_neg_of_neg_of_pos c h1
   have b:=Int.mul_nonneg g (Int.le_of_lt h2)
   omega
 . intro g
   refine Int.not_lt.1 λc => ?_
   have a:=Int.mul_neg_of_neg_of_pos c h2
   have b:=Int.mul_nonneg g (Int.le_of_lt h1)
   omega
theorem j11(z:Cq):z.A.natAbs*z.re.den=z.re.num.natAbs*z.D:=by
 have h:=congrArg Int.natAbs (W0t z)
 rw[Int.natAbs_mul,Int.natAbs_mul,Int.natAbs_natCast,Int.natAbs_natCast]at h
 exact h.symm
theorem X0n(z:Cq):D0b z.A.natAbs z.D=D0b z.re.num.natAbs z.re.den:=by
 have d1:0<z.D:=by have:=z.canon.rep.pos; omega
 have d2:0<z.re.den:=by have:=z.re.den_nz; omega
 exact((N05 d1).congr d1 d2 (j11 z)).unique d2 (N05 d2)
theorem B10(z:Cq):upK z.A.natAbs z.D=upK z.re.num.natAbs z.re.den:=by
 have d1:0<z.D:=by have:=z.canon.rep.pos; omega
 have d2:0<z.re.den:=by have:=z.re.den_nz; omega
 exact((A07 d1).congr d1 d2 (j11 z)).unique d2 (A07 d2)
theorem y0j{V:View}:a00 Tryz.prog b0p #[] V λv _=>v=(H0a.mk 53 (-1074) 1023).val:=L0m V _ rfl
theorem n0w{V:View}{x:NumV}{z:Cq}(hx:T00 V x z)(hz:z.sz<=2^30):a00 Tryz.prog L0r #[x.val] V λv _=>v = .float .f64 (m04 (D0f z.re)):=by
 have zA:=z.szA; have zD:=z.szD
 refine B0p x V _ (y0j.mono λv V1 l1 hv=>⟨_,hv,(B01 (hx.le l1)).mono λv V2 l2 ⟨s,hv,hs⟩=>⟨s,hv,?_⟩⟩)
 refine(x0j (way:=0) (.inl rfl) ((hx.le (View.le_trans l1 l2)).re) hs (by have:=z.canon.rep.pos; omega) (by omega) (by omega)).mono λv V3 _ hv=>⟨_,hv,?_⟩
 unfold D0f
 rw[X0n z,B10 z]
 by_cases c:0<=z.A
 . rw[if_pos c,if_pos ((X0c z).1 c),if_pos rfl]
 . rw[if_neg c,if_neg (λg=>c ((X0c z).2 g)),if_pos rfl]
theorem N0l{V:View}{x:NumV}{z:Cq}(hx:T00 V x z)(hz:z.sz<=2^30):a00 Tryz.prog M0r #[x.val] V λv _=>v = .float .f64 (m04 (E0f z.re)):=by
 have zA:=z.szA; have zD:=z.szD
 refine C0p x V _ (y0j.mono λv V1 l1 hv=>⟨_,hv,(B01 (hx.le l1)).mono λv V2 l2 ⟨s,hv,hs⟩=>⟨s,hv,?_⟩⟩)
 refine(x0j (way:=1) (.inr rfl) ((hx.le (View.le_trans l1 l2)).re) hs (by have:=z.canon.rep.pos; omega) (by omega) (by omega)).mono λv V3 _ hv=>⟨_,hv,?_⟩
 unfold E0f
 rw[X0n z,B10 z]
 by_cases c:0<=z.A
 . rw[if_pos c,if_pos ((X0c z).1 c),if_neg (by decide)]
 . rw[if_neg c,if_neg (λg=>c ((X0c z).2 g)),if_neg (by decide)]
theorem b0b{V:View}{s:Sl}{a:Nat}(hs:o00 V s a):a00 Tryz.prog X0e #[s.v,.int .i64 0] V λv _=>v = .int .u32 ((a%2:Nat):Int):=by
 have hl:=hs.len_zero
 have k0:i64.wrap (Int.tdiv 0 32)=0:=by decide
 have k1:u64.wrap (Int.tmod 0 32)=0:=by decide
 refine f0k s 0 V _ ⟨λh=>absurd h (by decide),λ_=>⟨λh => ?_,λh => ?_⟩⟩
 . rw[k0]at h
   have h : s.len = 0 := by have : (0 : Int) ≥ (s.len : Int) := by simpa using h
                            omega
   rw[hl.1 h]; rfl
 . rw[k0]at h ⊢
   have h : 0 < s.len := by have : ¬ (0 : Int) ≥ (s.len : Int) := by simpa using h
                            omega
   refine⟨⟨by omega,by omega,hs.isSome h⟩,_,hs.get (by omega) (by omega),by rw[k1]; omega,?_⟩
   rw[k1]
   have e0:(min (Int.toNat 0) u32.bits)=0:=by decide
   rw[e0]
   have g:=(X03 a).getD 0
   have e1:(dig a).getD 0 0=a%4294967296:=by rw[q0f]; simp
   have e2:Int.fdiv (((dig a).getD (Int.toNat 0) 0:Nat):Int) (2^0)=((a%4294967296:Nat):Int):=by
    rw[show(Int.toNat 0)=0 from rfl,e1,Int.fdiv_eq_ediv_of_nonneg _ (by omega)]; simp
   rw[e2]
   have e3:BitVec.toNat ((BitVec.ofInt u32.bits ((a%4294967296:Nat):Int)) &&& (BitVec.ofInt u32.bits 1))=a%4294967296%2:=by
    rw[BitVec.toNat_and]
    have a1:(BitVec.ofInt u32.bits ((a%4294967296:Nat):Int)).toNat=a%4294967296:=of32 (Nat.mod_lt _ (by decide))
    have a2:(BitVec.ofInt u32.bits 1).toNat=1:=by decide
    rw[a1,a2]; exact Nat.and_one_is_mod _
   rw[e3]
   have e4:a%4294967296%2=a%2:=by omega
   rw[e4,u32w (by omega) (by omega)]
theorem z0j{V:View}{sa sd:Sl}{a d K:Nat}(hK:K=1074)(ha:o00 V sa a)(hd:o00 V sd d)(a0:a≠0)(d0:0<d)(za:bl a<=2^30)(zd:bl d<=2^30) :
 a00 Tryz.prog X0o #[sa.v,sd.v,.int .i64 53,.int .i64 (-1074)] V λv V'=>∃(r:Sl) (T m l:Nat) (b:Bool),v = .tuple #[r.v,.int .i64 ((T:Int)-1074),.int .u32 (l:Int),.bool b] /\
  o00 V' r m/\m<2^53/\T<=2^33/\Spl a d K T m (b=true\/l=1):=by
 have wa:wn a<=2^43:=j09 (by omega)
 have wd:wn d<=2^43:=j09 (by omega)
 have ba:=s0f a0
 refine S0m sa sd 53 (-1074) V _ (λ_ x _=>x.t9=max ((bl a:Int)-bl d-54) (-1075))
  (λc x V=>c.t9=max ((bl a:Int)-bl d-54) (-1075)/\∃q r:Nat,o00 V x.t13 q/\o00 V x.t14 r/\(0<=c.t9->q=a / (d*2^c.t9.toNat)/\r=a%(d*2^c.t9.toNat))/\(c.t9<0->q=a*2^(-c.t9).toNat / d/\r=a*2^(-c.t9).toNat%d))
  (λ_ x V=>∃T q l:Nat,x.t9=(T:Int)-1074/\x.t10=(l:Int)/\o00 V x.t13 q/\T+bl q<=2^33/\Spl a d K T q (x.t11=true\/l=1))
  (λ_ x V=>bl (Y0d V x.t13)) ?_
 refine(P02 ha (Nat.le_trans wa (by decide))).mono λv V1 l1 hv=>⟨_,hv,(P02 (hd.le l1) (Nat.le_trans wd (by decide))).mono λv V2 l2 hv=>⟨_,hv,?_⟩⟩
 have w0:i64.wrap ((-1074:Int)-1) = -1075:=by decide
 have w1:i64.wrap (i64.wrap (i64.wrap ((bl a:Nat)-(bl d:Nat):Int)-53)-1)=(bl a:Int)-bl d-54:=by
  rw[i64w (n:=(bl a:Int)-bl d) (by omega) (by omega),i64w (n:=(bl a:Int)-bl d-53) (by omega) (by omega),i64w (by omega) (by omega)]; omega
 rw[w0,w1]
 refine⟨⟨λhc => ?_,λhc => ?_⟩,?_⟩
 . have hc:(bl a:Int)-bl d-54 < -1075:=by simpa using hc
   show(-1075:Int)=_; omega
 . have hc:¬(bl a:Int)-bl d-54 < -1075:=by simpa using hc
   show(bl a:Int)-bl d-54=_; omega
 rintro⟨e⟩ V3 l3 he
 have he:e=max ((bl a:Int)-bl d-54) (-1075):=he
 have L3:=View.le_trans l1 (View.le_trans l2 l3)
 dsimp only
 refine⟨⟨λhc => ?_,λhc => ?_⟩,?_⟩
 . have hc:e>=0:=by simpa using hc
   obtain⟨E,rfl⟩:∃E:Nat,e=(E:Int):=⟨e.toNat,by omega⟩
   refine(T04 (hd.le L3) (Nat.le_trans wd (by decide)) (by omega)).mono λv V5 l5 ⟨s,hv,hs⟩=>⟨s,hv,?_⟩
   refine(U04 (ha.le (View.le_trans L3 l5)) hs wa (Nat.pos_iff_ne_zero.1 (Nat.mul_pos d0 (f06 E)))).mono λv V6 l6 ⟨q,r,hv,hq,hr⟩=>⟨q,r,hv,he,_,_,hq,hr,λ_ => ?_,λh => ?_⟩
   . rw[Int.toNat_natCast]; exact⟨rfl,rfl⟩
   . have h:(E:Int)<0:=h
     omega
 . have hc:¬e>=0:=by simpa using hc
   have w2:i64.wrap (0-e)=((-e).toNat:Int):=by rw[i64w (by omega) (by omega)]; omega
   rw[w2]
   refine(T04 (ha.le L3) (Nat.le_trans wa (by decide)) (by omega)).mono λv V5 l5 ⟨s,hv,hs⟩=>⟨s,hv,?_⟩
   have b1:=Z0d a (2^(-e).toNat)
   have b2:=s06 (-e).toNat
   refine(U04 hs (hd.le (View.le_trans L3 l5)) (j09 (by omega)) (by omega)).mono λv V6 l6 ⟨q,r,hv,hq,hr⟩=>⟨q,r,hv,he,_,_,hq,hr,λh => ?_,λ_=>⟨rfl,rfl⟩⟩
   have h:0<=e:=h
   omega
 rintro⟨q',r'⟩ V4 l4 ⟨_,q,r,hq,hr,h1,h2⟩
 dsimp only at hq hr h1 h2 ⊢
 have bq:bl q<=2^31:=by
  by_cases hc:0<=e
  . have:=x0a (Nat.div_le_self a (d*2^e.toNat))
    rw[<-(h1 hc).1]at this; omega
  . have b1:=Z0d a (2^(-e).toNat)
    have b2:=s06 (-e).toNat
    have:=x0a (Nat.div_le_self (a*2^(-e).toNat) d)
    rw[<-(h2 (by omega)).1]at this; omega
 have wq:wn q<=2^44:=j09 (by omega)
 refine(b0b hq).mono λv V9 l9 hv=>⟨_,hv,?_⟩
 refine(Q06 (n:=1) (hq.le l9) wq (by omega)).mono λv V10 l10 ⟨s10,hv,hs10⟩=>⟨s10,hv,?_⟩
 rw[Nat.pow_one]at hs10
 have bq2:bl (q / 2)<=bl q:=x0a (Nat.div_le_self _ _)
 have hr0:=hr.len_zero
 have hrest:(r≠0\/q%2=1)↔(decide (((r'.len:Int):Int)>0)=true\/q%2=1):=by
  rw[decide_eq_true_iff]
  have:r≠0↔(r'.len:Int)>0:=by rw[Ne,<-hr0]; omega
  rw[this]
 refine⟨?_,?_⟩
 . have hT:i64.wrap (e+1)=((e+1075).toNat:Int)-1074:=by rw[i64w (by omega) (by omega)]; omega
   refine⟨(e+1075).toNat,q / 2,q%2,hT,rfl,hs10,by omega,?_⟩
   by_cases hc:0<=e
   . obtain⟨E,rfl⟩:∃E:Nat,e=(E:Int):=⟨e.toNat,by omega⟩
     obtain⟨e1,e2⟩:=h1 hc
     rw[Int.toNat_natCast]at e1 e2
     have eT:((E:Int)+1075).toNat=E+1+K:=by omega
     rw[eT]
     exact(b0r d0 e1 e2 (i0y d0 (I0d a0) (y0e d) ba (by omega))).congr hrest
   . obtain⟨E,hE⟩:∃E:Nat,(-e).toNat=E+1:=⟨(-e).toNat-1,by omega⟩
     obtain⟨e1,e2⟩:=h2 (by omega)
     rw[hE]at e1 e2
     refine(N0k (K:=K) d0 (by omega) e1 e2 ?_).congr hrest
     by_cases z:e = -1075
     . exact .inl (by omega)
     . exact .inr (i0y d0 (I0d a0) (y0e d) ba (by omega))
 rintro⟨e2,x10,x11,q2'⟩ V11 l11 ⟨T,q2,l,hT,hl,hq2,hb2,hS⟩
 dsimp only at hT hl hq2 hS ⊢
 subst hT; subst hl
 have wq2:wn q2<=2^44:=j09 (by omega)
 refine(P02 hq2 (Nat.le_trans wq2 (by decide))).mono λv V12 l12 hv=>⟨_,hv,λhc => ?_,λhc => ?_⟩
 · have hc : 53 < bl q2 := by have : ((bl q2 : Nat) : Int) > 53 := by simpa using hc
                              omega
   have q53:2^53<=q2:=by
    refine Nat.le_of_not_lt λg => ?_
    have:=j02 g
    omega
   have hh:=N0y (x:=q2) (by omega)
   have wT:i64.wrap ((T:Int)-1074+1)=((T+1:Nat):Int)-1074:=by rw[i64w (by omega) (by omega)]; omega
   have hst:=hS.step d0 q53
   have fin:∀(y:Bool),((x11=true\/l=1)↔y=true)->a00 Tryz.prog X0e #[q2'.v,.int .i64 0] V12 λv V13=>∃r12:Int,v = .int .u32 r12/\a00 Tryz.prog o0b #[q2'.v,.int .i64 1] V13 λv V14=>∃r13:Sl,v=r13.v /\
    ((∃T' q l':Nat,i64.wrap ((T:Int)-1074+1)=(T':Int)-1074/\r12=(l':Int)/\o00 V14 r13 q/\T'+bl q<=2^33/\Spl a d K T' q (y=true\/l'=1))/\bl (Y0d V14 r13)<bl (Y0d V11 q2')):=by
    intro y hy
    refine(b0b (hq2.le l12)).mono λv V13 l13 hv=>⟨_,hv,(Q06 (n:=1) (hq2.le (View.le_trans l12 l13)) wq2 (by omega)).mono λv V14 l14 ⟨s14,hv,hs14⟩=>⟨s14,hv,?_⟩⟩
    rw[Nat.pow_one]at hs14
    refine⟨⟨T+1,q2 / 2,q2%2,wT,rfl,hs14,by omega,hst.congr (by rw[hy])⟩,?_⟩
    rw[A08 hs14,A08 hq2]; omega
   refine⟨λh11 => ?_,λh11 => ?_⟩
   . exact fin true (by simp[h11])
   . exact fin ((l:Int)==1) (by rw[h11]; simp; omega)
 · have hc : ¬ 53 < bl q2 := by have : ¬ ((bl q2 : Nat) : Int) > 53 := by simpa using hc
                                omega
   exact⟨_,T,q2,l,x11,rfl,hq2.le l12,u0f (by omega),by omega,hS⟩
theorem G0k(l:List Nat){i:Nat}(h:i<l.length):wval (l.drop i)=l.getD i 0+4294967296*wval (l.drop (i+1)):=by
 rw[List.drop_eq_getElem_cons h]
 simp[wval,List.getD,h]
theorem S13{y w:Nat}(hy:y<2^32)(hw:w<4294967296) :
 u64.wrap (BitVec.toNat ((BitVec.ofInt u64.bits (u64.wrap ((y:Int)*2^(min (Int.toNat 32) u64.bits)))) ||| (BitVec.ofInt u64.bits (u64.wrap (w:Int)))))=((w+4294967296*y:Nat):Int):=by
 have e0:(2:Int)^(min (Int.toNat 32) u64.bits)=((4294967296:Nat):Int):=by decide
 rw[e0,<-Int.natCast_mul,C07 (y:=y*4294967296) (by omega),C07 (y:=w) (by omega),E0l (by omega) (by omega)]
 have h:=Nat.two_pow_add_eq_or_of_lt (i:=32) (b:=w) (by omega) y
 have e:y*4294967296 ||| w=2^32*y+w:=by rw[h,Nat.mul_comm y]
 rw[e]; omega
theorem w12{k f:Nat}(hf:f<2^52):k*2^52 ||| f=k*2^52+f:=by
 have h:=Nat.two_pow_add_eq_or_of_lt (i:=52) (b:=f) hf k
 rw[Nat.mul_comm k,h]
theorem E07{V:View}{s:Sl}{m T:Nat}(hs:o00 V s m)(hm:m<2^53)(hb:T=0\/2^52<=m)(hT:T<=2045) :
 a00 Tryz.prog w0c #[s.v,.int .i64 ((T:Int)-1074)] V λv _=>v = .float .f64 (T*2^52+m):=by
 have hlen:=hs.len
 have hl2:s.len<=2:=by
  have:wn m<=2:=j09 (by have:bl m<=53:=j02 hm; omega)
  simp only[wn]at this; omega
 have hl0:=hs.len_zero
 refine T0m s ((T:Int)-1074) V _ (λ_ x _=>∃k y:Nat,x.t6=(k:Int)-1/\k<=s.len/\x.t5=(y:Int)/\y=wval ((dig m).drop k)) (λ_ x _=>(x.t6+1).toNat)
  (λ_ x _=>x.t1=(T:Int)-1074/\x.t5=(m:Int)) (λ_ _ _=>0) ⟨λh => ?_,λh=>⟨⟨s.len,0,?_,Nat.le_refl _,rfl,?_⟩,?_⟩⟩
 · have h : s.len = 0 := by have : (s.len : Int) = 0 := by simpa using h
                            omega
   have m0:=hl0.1 h
   have t0:T=0:=by omega
   rw[m0,t0]
 . show i64.wrap ((s.len:Int)-1)=_
   rw[i64w (by omega) (by omega)]
 . rw[hlen,List.drop_length]; rfl
 rintro⟨y',i'⟩ V1 l1 ⟨k,y,h1,h2,h3,h4⟩
 dsimp only at h1 h3 ⊢
 subst h1; subst h3
 refine⟨λhc => ?_,λhc => ?_⟩
 · have hc : 1 ≤ k := by have : (k : Int) - 1 ≥ 0 := by simpa using hc
                         omega
   refine⟨⟨by omega,by omega,hs.isSome (by omega)⟩,_,(hs.le l1).get (by omega) (by omega),?_,?_⟩
   . have ek:((k:Int)-1).toNat=k-1:=by omega
     rw[ek]
     have hw:=(X03 m).getD (k-1)
     have hd:=G0k (dig m) (i:=k-1) (by omega)
     have ek2:k-1+1=k:=by omega
     rw[ek2,<-h4]at hd
     have hy:y<2^32:=by
      rw[h4]
      have:=w0e (l:=(dig m).drop k) (λd hd=>X03 m d (List.mem_of_mem_drop hd))
      rw[List.length_drop]at this
      have hk2:(dig m).length-k<=1:=by omega
      have:=Nat.lt_of_lt_of_le this (Nat.pow_le_pow_right (by omega) hk2)
      omega
     refine⟨k-1,(dig m).getD (k-1) 0+4294967296*y,?_,by omega,S13 hy hw,hd.symm⟩
     show i64.wrap ((k:Int)-1-1)=_
     rw[i64w (by omega) (by omega)]; omega
   . show(i64.wrap ((k:Int)-1-1)+1).toNat<((k:Int)-1+1).toNat
     rw[i64w (by omega) (by omega)]; omega
 · have hc : k = 0 := by have : ¬ (k : Int) - 1 ≥ 0 := by simpa using hc
                         omega
   subst hc
   rw[List.drop_zero,l01]at h4
   subst h4
   refine⟨⟨rfl,rfl⟩,?_⟩
   rintro⟨t',x'⟩ V2 l2 ⟨ht,hx⟩
   dsimp only at ht hx ⊢
   subst ht; subst hx
   have lt:2^52<=y->∀ {V:View},((decide ((i64.wrap ((T:Int)-1074+1075):Int)>2046))=true->a00 Tryz.prog K0a #[.int .i64 1] V λv _=>∃r1:Nat,v = .float .f64 r1/\Value.float .f64 r1 = .float .f64 (T*2^52+y)) /\
    ((decide ((i64.wrap ((T:Int)-1074+1075):Int)>2046))=false->∃e2:Nat,g07 Tryz.prog Q05 #[.int .u64 (u64.wrap (BitVec.toNat ((BitVec.ofInt u64.bits (u64.wrap ((u64.wrap (i64.wrap ((T:Int)-1074+1075)))*2^(min (Int.toNat 52) (u64.bits))))) ||| (BitVec.ofInt u64.bits (u64.wrap (BitVec.toNat ((BitVec.ofInt u64.bits (y:Int)) &&& (BitVec.ofInt u64.bits 4503599627370495))))))))] (.float .f64 e2)/\Value.float .f64 e2 = .float .f64 (T*2^52+y)):=by
    intro h52 V
    have w0:i64.wrap ((T:Int)-1074+1075)=((T+1:Nat):Int):=by rw[i64w (by omega) (by omega)]; omega
    rw[w0]
    refine⟨λh => ?_,λ_=>⟨_,?_,rfl⟩⟩
    . exfalso
      have:((T+1:Nat):Int)>2046:=by simpa using h
      omega
    . have e1:=z0d (x:=y) (m:=4503599627370495) (by omega) (by omega)
      have e2:y &&& 4503599627370495=y%2^52:=Nat.and_two_pow_sub_one_eq_mod y 52
      rw[e2]at e1
      rw[show(((4503599627370495:Nat)):Int)=4503599627370495 from rfl]at e1
      have e3:(2:Int)^(min (Int.toNat 52) u64.bits)=((2^52:Nat):Int):=by decide
      rw[e1,C07 (y:=T+1) (by omega),e3,<-Int.natCast_mul,C07 (y:=(T+1)*2^52) (by omega),E0l (by omega) (by omega),w12 (Nat.mod_lt _ (by decide))]
      have e4:(T+1)*2^52+y%2^52=T*2^52+y:=by omega
      rw[e4]
      exact H0b _
   have small:¬2^52<=y->∃e1:Nat,g07 Tryz.prog Q05 #[.int .u64 (y:Int)] (.float .f64 e1)/\Value.float .f64 e1 = .float .f64 (T*2^52+y):=by
    intro h52
    have t0:T=0:=by omega
    exact⟨y,H0b y,by rw[t0,Nat.zero_mul,Nat.zero_add]⟩
   have c52:∀ {b:Bool},decide (((y:Nat):Int)<4503599627370496)=b->(b=false↔2^52<=y):=by
    intro b hb
    rw[<-hb,decide_eq_false_iff_not]; omega
   refine⟨λhc=>⟨λht => ?_,λ_=>⟨λ_=>small ?_,λg=>by rw[hc]at g; exact absurd g (by decide)⟩⟩,λhc=>⟨λg=>by rw[hc]at g; exact absurd g (by decide),λ_=>lt ((c52 rfl).1 hc)⟩⟩
   . exfalso
     have hc:(y:Int)<4503599627370496:=by simpa using hc
     have ht:(T:Int)-1074 > -1074:=by simpa using ht
     omega
   . have hc:(y:Int)<4503599627370496:=by simpa using hc
     omega
theorem C10{T m:Nat}(hT:T=2045)(e:m+1=2^53):T*2^52+m+1=infR:=by unfold infR; omega
theorem Q0y{T m:Nat}(e:m+1=2^53):(T+1)*2^52+2^52=T*2^52+m+1:=by omega
theorem S0y:9218868437227405311=infR-1:=by decide
theorem Z0b{V:View}{sa sd:Sl}{a d:Nat}(up:Bool)(ha:o00 V sa a)(hd:o00 V sd d)(d0:0<d)(za:bl a<=2^30)(zd:bl d<=2^30) :
 a00 Tryz.prog B0m #[sa.v,sd.v,.bool up] V λv _=>v = .float .f64 (if up then upK a d else D0b a d):=by
 have hl0:=ha.len_zero
 obtain⟨K,hK⟩:∃K:Nat,K=1074:=⟨_,rfl⟩
 refine g0k sa sd up V _ ⟨λh => ?_,λh => ?_⟩
 · have h : sa.len = 0 := by have : (sa.len : Int) = 0 := by simpa using h
                             omega
   rw[hl0.1 h,d0w,W0z]; simp
 have a0:a≠0:=λe=>by
  have h:¬(sa.len:Int)=0:=by simpa using h
  have:=hl0.2 e; omega
 refine(z0j hK ha hd a0 d0 za zd).mono λv V1 l1 ⟨r,T,m,l,b,hv,hr,hm,hT,hS⟩=>⟨r,_,_,b,hv,?_⟩
 have bm:bl m<=53:=j02 hm
 have wm:wn m<=2^43:=j09 (by omega)
 refine(P02 hr (Nat.le_trans wm (by decide))).mono λv V2 l2 hv=>⟨_,hv,?_⟩
 have w0:i64.wrap (((bl m:Nat):Int)+((T:Int)-1074))=(bl m:Int)+T-1074:=by rw[i64w (by omega) (by omega)]; omega
 rw[w0]
 refine⟨λhc => ?_,λhc => ?_⟩
 . have hc:(bl m:Int)+T-1074>1024:=by simpa using hc
   have ov:=hS.over d0 (by omega)
   refine⟨λhu=>D0l.mono λv V3 _ hv=>⟨_,hv,?_⟩,λhu => ?_⟩
   . rw[if_pos hu,(IsUp.most' hK d0 ov).unique d0 (A07 d0)]
   . rw[if_neg (by rw[hu]; decide),<-(j05.most' hK ov).unique d0 (N05 d0),S0y]
 have hc:¬(bl m:Int)+T-1074>1024:=by simpa using hc
 have hT5:T<=2045:=by
  refine Nat.le_of_not_lt λg => ?_
  have hb:2^52<=m:=by rcases hS.big with e|e<;>omega
  have:bl m=53:=a13 hb (by omega)
  omega
 have hr2:=hr.le l2
 have hdown:=(hS.isDown hK d0 hm hT5).unique d0 (N05 d0)
 have tail:(b=true\/l=1)->∀(b1:Nat) (V4:View),View.le V2 V4->View.Fin V4->V4 b1=some #[.int .u32 1]->up=true ->
  a00 Tryz.prog W0e #[r.v,(Sl.mk (some (Addr.mk b1 0 none)) 1 1).v] V4 λv V5=>∃r7:Sl,v=r7.v/\a00 Tryz.prog S07 #[r7.v] V5 λv V6=>∃r8:Int,v = .int .i64 r8 /\
   ((decide ((r8:Int)>53)=true->a00 Tryz.prog o0b #[r7.v,.int .i64 1] V6 λv V7=>∃r9:Sl,v=r9.v/\a00 Tryz.prog S07 #[r9.v] V7 λv V8=>∃r10:Int,v = .int .i64 r10 /\
     ((decide ((i64.wrap (r10+(i64.wrap (((T:Int)-1074)+1))):Int)>1024)=true->a00 Tryz.prog K0a #[.int .i64 1] V8 λv _=>∃r11:Nat,v = .float .f64 r11/\Value.float .f64 r11 = .float .f64 (if up then upK a d else D0b a d)) /\
      (decide ((i64.wrap (r10+(i64.wrap (((T:Int)-1074)+1))):Int)>1024)=false->a00 Tryz.prog w0c #[r9.v,.int .i64 (i64.wrap (((T:Int)-1074)+1))] V8 λv _=>∃r12:Nat,v = .float .f64 r12/\Value.float .f64 r12 = .float .f64 (if up then upK a d else D0b a d)))) /\
    (decide ((r8:Int)>53)=false->a00 Tryz.prog S07 #[r7.v] V6 λv V11=>∃r13:Int,v = .int .i64 r13 /\
     ((decide ((i64.wrap (r13+((T:Int)-1074)):Int)>1024)=true->a00 Tryz.prog K0a #[.int .i64 1] V11 λv _=>∃r14:Nat,v = .float .f64 r14/\Value.float .f64 r14 = .float .f64 (if up then upK a d else D0b a d)) /\
      (decide ((i64.wrap (r13+((T:Int)-1074)):Int)>1024)=false->a00 Tryz.prog w0c #[r7.v,.int .i64 ((T:Int)-1074)] V11 λv _=>∃r15:Nat,v = .float .f64 r15/\Value.float .f64 r15 = .float .f64 (if up then upK a d else D0b a d))))):=by
  intro hrest b1 V4 l4 _ hb1 hu
  have hup:=(hS.isUp1 hK d0 hm hT5 hrest).unique d0 (A07 d0)
  rw[if_pos hu,<-hup]
  refine(W0b (hr2.le l4) (o00.lit (n:=1) hb1 (by omega) (by omega)) (Nat.le_trans wm (by decide)) (Nat.le_trans Q0t (by decide))).mono λv V5 l5 ⟨r7,hv,h7⟩=>⟨r7,hv,?_⟩
  have bm1:bl (m+1)<=54:=j02 (by omega)
  have wm1:wn (m+1)<=2^43:=j09 (by omega)
  refine(P02 h7 (Nat.le_trans wm1 (by decide))).mono λv V6 l6 hv=>⟨_,hv,λh8 => ?_,λh8 => ?_⟩
  . have h8:((bl (m+1):Nat):Int)>53:=by simpa using h8
    have e:m+1=2^53:=by
     refine Classical.byContradiction λg => ?_
     have:=j02 (a:=m+1) (k:=53) (by omega)
     omega
    refine(Q06 (n:=1) (h7.le l6) (Nat.le_trans wm1 (by decide)) (by omega)).mono λv V7 l7 ⟨r9,hv,h9⟩=>⟨r9,hv,?_⟩
    have e2:(m+1) / 2^1=2^52:=by rw[e]
    rw[e2]at h9
    have e3:bl (2^52)=53:=by decide
    refine(P02 h9 (Nat.le_trans (j09 (k:=2^43) (by omega)) (by decide))).mono λv V8 l8 hv=>⟨_,hv,?_⟩
    rw[e3]
    have w1:i64.wrap ((T:Int)-1074+1)=((T+1:Nat):Int)-1074:=by rw[i64w (by omega) (by omega)]; omega
    rw[w1]
    have w2:i64.wrap (((53:Nat):Int)+(((T+1:Nat):Int)-1074))=(T:Int)-1020:=by rw[i64w (by omega) (by omega)]; omega
    rw[w2]
    refine⟨λg => ?_,λg => ?_⟩
    . have g:(T:Int)-1020>1024:=by simpa using g
      have t5:T=2045:=by omega
      refine D0l.mono λv V9 _ hv=>⟨_,hv,?_⟩
      rw[C10 t5 e]
    . have g:¬(T:Int)-1020>1024:=by simpa using g
      refine(E07 (T:=T+1) (h9.le l8) (by omega) (.inr (Nat.le_refl _)) (by omega)).mono λv V10 _ hv=>⟨_,hv,?_⟩
      rw[Q0y (T:=T) e]
  . have h8:¬((bl (m+1):Nat):Int)>53:=by simpa using h8
    refine(P02 (h7.le l6) (Nat.le_trans wm1 (by decide))).mono λv V11 l11 hv=>⟨_,hv,?_⟩
    have w2:i64.wrap (((bl (m+1):Nat):Int)+((T:Int)-1074))=(bl (m+1):Int)+T-1074:=by rw[i64w (by omega) (by omega)]; omega
    rw[w2]
    refine⟨λg => ?_,λg => ?_⟩
    . exfalso
      have g:(bl (m+1):Int)+T-1074>1024:=by simpa using g
      omega
    . refine(E07 (T:=T) (h7.le (View.le_trans l6 l11)) (u0f (a:=m+1) (k:=53) (by omega)) (by have:=hS.big; omega) hT5).mono λv V10 _ hv=>⟨_,hv,?_⟩
      rw[Nat.add_assoc]
 refine⟨λhu=>⟨λh1 b1 V4 l4 f4 hb1 => ?_,λh1=>⟨λh2 b1 V4 l4 f4 hb1 => ?_,λh2 => ?_⟩⟩,λhu => ?_⟩
 · have h1 : l = 1 := by have : (l : Int) = 1 := by simpa using h1
                         omega
   exact tail (.inr h1) b1 V4 l4 f4 hb1 hu
 . exact tail (.inl h2) b1 V4 l4 f4 hb1 hu
 · have h1 : ¬ l = 1 := by have : ¬ (l : Int) = 1 := by simpa using h1
                           omega
   have hno:¬(b=true\/l=1):=by rw[h2]; simp[h1]
   have hup:=(hS.isUp hK d0 hm hT5 hno).unique d0 (A07 d0)
   rw[if_pos hu,<-hup]
   exact(E07 hr2 hm hS.big hT5).mono λv V24 _ hv=>⟨_,hv,rfl⟩
 . rw[if_neg (by rw[hu]; decide),<-hdown]
   exact(E07 hr2 hm hS.big hT5).mono λv V25 _ hv=>⟨_,hv,rfl⟩
theorem D10{r:Nat}(h:r<=infR):(((FloatKind.f64.format.order r 0 != some .eq)=true->0<r/\Op.negFloat .f64 r=m04 (-(r:Int)))/\((FloatKind.f64.format.order r 0 != some .eq)=false->r=0)):=by
 have hr63:r<2^63:=by unfold infR at h; omega
 have hok:okW r:=⟨by omega,by rw[Nat.mod_eq_of_lt hr63]; exact h⟩
 have hkey:key r=(r:Int):=i0j hr63
 have k0:key 0=0:=by decide
 have e:(FloatKind.f64.format.order r 0 != some .eq) = !decide ((r:Int)=0):=by
  show(!(FloatKind.f64.format.order r 0==some .eq))=_
  rw[z0f hok (by decide),hkey,k0]
 rw[e]
 refine⟨λh1 => ?_,λh1 => ?_⟩
 . have h1:r≠0:=λc=>by subst c; simp at h1
   refine⟨by omega,?_⟩
   rw[l09 (by omega),if_pos hr63,F0q (by omega),Nat.add_comm]
 . refine Classical.byContradiction λc => ?_
   rw[decide_eq_false (by omega)]at h1; simp at h1
theorem A0j{A:Int}{r:Nat}{neg:Bool}(hn:neg=decide (A<0))(h:r<=infR){Q:Value->Prop}(k:Q (.float .f64 (m04 (if 0<=A then(r:Int)else -(r:Int))))) :
 ((neg=true->((FloatKind.f64.format.order r 0 != some .eq)=true->Q (.float .f64 (Op.negFloat .f64 r)))/\((FloatKind.f64.format.order r 0 != some .eq)=false->Q (.float .f64 r)))/\(neg=false->Q (.float .f64 r))):=by
 have nw:=D10 h
 refine⟨λhc=>⟨λh1 => ?_,λh1 => ?_⟩,λhc => ?_⟩
 . have hA:¬0<=A:=by rw[hn,decide_eq_true_iff]at hc; omega
   rw[if_neg hA]at k; rw[(nw.1 h1).2]; exact k
 . have hA:¬0<=A:=by rw[hn,decide_eq_true_iff]at hc; omega
   rw[if_neg hA]at k
   have r0:=nw.2 h1
   subst r0; exact k
 . have hA:0<=A:=by rw[hn,decide_eq_false_iff_not]at hc; omega
   rw[if_pos hA,w0j]at k; exact k
theorem B0j{V:View}{x:NumV}{z:Cq}(hx:QAt V x z)(hz:z.sz<=2^30):a00 Tryz.prog S0o #[x.val] V λv _=>v = .float .f64 (m04 (D0f z.re)):=by
 have zA:=z.szA; have zD:=z.szD
 have hn:=hx.re.1
 have d0:0<z.D:=by have:=z.canon.rep.pos; omega
 refine W0m x V _ ((Z0b x.re.neg hx.re.2 hx.under d0 (by omega) (by omega)).mono λv V1 _ hv=>⟨_,hv,?_⟩)
 have hle:(if x.re.neg=true then upK z.A.natAbs z.D else D0b z.A.natAbs z.D)<=infR:=by
  split
  . exact(A07 d0).le
  . exact Nat.le_of_lt (N05 d0).lt
 refine A0j (Q:=λv=>v = .float .f64 (m04 (D0f z.re))) hn hle ?_
 congr 2
 unfold D0f
 rw[<-X0n z,<-B10 z]
 by_cases c:0<=z.A
 . rw[if_pos c,if_pos ((X0c z).1 c),hn,decide_eq_false (by omega)]; rfl
 . rw[if_neg c,if_neg (λg=>c ((X0c z).2 g)),hn,decide_eq_true (by omega)]; rfl
theorem Y0c{V:View}{x:NumV}{z:Cq}(hx:QAt V x z)(hz:z.sz<=2^30):a00 Tryz.prog T0o #[x.val] V λv _=>v = .float .f64 (m04 (E0f z.re)):=by
 have zA:=z.szA; have zD:=z.szD
 have hn:=hx.re.1
 have d0:0<z.D:=by have:=z.canon.rep.pos; omega
 refine X0m x V _ ((Z0b (!x.re.neg) hx.re.2 hx.under d0 (by omega) (by omega)).mono λv V1 _ hv=>⟨_,hv,?_⟩)
 have hle:(if(!x.re.neg)=true then upK z.A.natAbs z.D else D0b z.A.natAbs z.D)<=infR:=by
  split
  . exact(A07 d0).le
  . exact Nat.le_of_lt (N05 d0).lt
 refine A0j (Q:=λv=>v = .float .f64 (m04 (E0f z.re))) hn hle ?_
 congr 2
 unfold E0f
 rw[<-X0n z,<-B10 z]
 by_cases c:0<=z.A
 . rw[if_pos c,if_pos ((X0c z).1 c),hn,decide_eq_false (by omega)]; rfl
 . rw[if_neg c,if_neg (λg=>c ((X0c z).2 g)),hn,decide_eq_true (by omega)]; rfl
theorem M0h{V:View}{x:Nat}(h:x<2^64):a00 Tryz.prog D0m #[.float .f64 x] V λv _=>v = .bool (decide (x%2^63<infR)):=by
 refine i0k x V _ ⟨x,L0f x,?_⟩
 have hp52:(2:Int)^(min (Int.toNat 52) u64.bits)=((2^52:Nat):Int):=by decide
 have e:=z0d (x:=x / 2^52) (m:=2047) (by omega) (by omega)
 have e1:x / 2^52 &&& 2047=fld x:=Nat.and_two_pow_sub_one_eq_mod (x / 2^52) 11
 rw[e1]at e
 rw[hp52,M0f]
 rw[show(((2047:Nat)):Int)=2047 from rfl]at e
 rw[e]
 congr 1
 have hf:fld x=2047↔¬x%2^63<infR:=by unfold fld infR; omega
 by_cases c:fld x=2047
 . have:=hf.1 c
   rw[c,decide_eq_false this]; rfl
 . have h2:x%2^63<infR:=Classical.byContradiction λg=>c (hf.2 g)
   rw[decide_eq_true h2]
   have:((fld x:Nat):Int)≠2047:=by omega
   simp[this]
theorem X0l(a b:Rat):(⟨a,0⟩:Cq)*⟨b,0⟩=⟨a*b,0⟩:=Cq.ext' (by rw[p03]; grind) (by rw[q03]; grind)
theorem Y0l(a b:Rat):(⟨a,0⟩:Cq)+⟨b,0⟩=⟨a+b,0⟩:=Cq.ext' (by rw[x05]) (by rw[y05]; grind)
theorem Z0l(a:Rat) : -(⟨a,0⟩:Cq)=⟨-a,0⟩:=Cq.ext' (by rw[G07]) (by rw[H07]; grind)
theorem k11(x:Nat):fq x=fkq (key x):=rfl
theorem A12:fq 0=0:=by
 unfold fq
 have:kz (key 0)=0:=by decide
 rw[this]; rw[Rat.div_def]; exact Rat.zero_mul _
structure BdAt (V:View) (b:BdV) (e:Eb):Prop where
 inf:b.inf=e.inf
 num:T00 V b.x e.num
 ok:e.ok
theorem BdAt.le{V V':View}{b:BdV}{e:Eb}(hle:V.le V')(h:BdAt V b e):BdAt V' b e:=⟨h.inf,h.num.le hle,h.ok⟩
theorem BdAt.range{V:View}{b:BdV}{e:Eb}(h:BdAt V b e):e.inf=0\/e.inf=1\/e.inf = -1:=by
 rcases h.ok with h|⟨_,h⟩
 . exact .inl h
 . exact .inr h
theorem BdAt.zero(V:View):BdAt V (BdV.mk 0 (NumV.mk (WhV.mk false (Sl.mk none 0 0)) (WhV.mk false (Sl.mk none 0 0)) (Sl.mk none 0 0))) (Eb.fin 0):=⟨rfl,T00.zero V,.inl rfl⟩
theorem BdAt.infty(V:View){i:Int}(h:i=1\/i = -1):BdAt V (BdV.mk i (NumV.mk (WhV.mk false (Sl.mk none 0 0)) (WhV.mk false (Sl.mk none 0 0)) (Sl.mk none 0 0))) ⟨i,0⟩:=⟨rfl,T00.zero V,.inr ⟨rfl,h⟩⟩
theorem BdAt.signs(V:View){i:Int}(h:(⟨i,0⟩:Eb).ok):BdAt V (BdV.mk i (NumV.mk (WhV.mk false (Sl.mk none 0 0)) (WhV.mk false (Sl.mk none 0 0)) (Sl.mk none 0 0))) ⟨i,0⟩:=⟨rfl,T00.zero V,h⟩
theorem T0y{r:Nat}(h:r<=infR):rm r<2^2099:=by
 have h1:rm r<=rm infR:=H0c.2 h
 obtain⟨e,he⟩:∃e,e=2046:=⟨_,rfl⟩
 rw[b0j he]at h1
 exact Nat.lt_of_le_of_lt h1 (M0x (a:=52+e) (b:=2099) (by omega))
theorem G0q(D:Nat):(0:Rat)=((0:Int):Rat) / (D:Rat):=by simp[Rat.div_def]
theorem T13{k:Int}(h:inK k):(⟨fkq k,0⟩:Cq).sz<=2100:=by
 have R:Rep ⟨fkq k,0⟩ (kz k) 0 (2^1074):=⟨C0y,rfl,G0q _⟩
 have hk:(kz k).natAbs=rm k.natAbs:=by unfold kz; split<;>omega
 refine R.sz ?_ (by simp[B0b]) ?_
 . rw[hk]
   have h2:k.natAbs<=infR:=by unfold inK at h; omega
   have:=j02 (T0y h2)
   omega
 . have:=s06 1074; omega
theorem U0s{k:Int}(h:inK k):(endE k).num.sz<=2100:=by
 have z:(Cq.zero).sz<=2100:=Nat.le_trans x09 (by omega)
 unfold endE Eb.num
 split
 . exact z
 . split
   . exact z
   . exact T13 h
theorem W0s{V:View}{x:Nat}(h:finW x):a00 Tryz.prog S0r #[.float .f64 x] V λv V'=>∃r:NumV,v=r.val/\T00 V' r ⟨fkq (key x),0⟩:=by
 refine F0p x V _ ((y0q (c:=CxV.mk x 0) h (show finW 0 from⟨by decide,by decide⟩)).mono λv V1 _ ⟨r,hv,hr⟩=>⟨r,0,hv,r,rfl,?_⟩)
 have hr:T00 V1 r ⟨fq x,fq 0⟩:=hr
 rw[A12,k11]at hr; exact hr
theorem X0t{V:View}{x:Nat}(h:okW x):a00 Tryz.prog p0x #[.float .f64 x] V λv V'=>∃b:BdV,v=b.val/\BdAt V' b (endE (key x)):=by
 have hk:=u0y h
 refine P0v x V _ ((a0i h.1).mono λv V1 _ hv=>⟨_,hv,λhc => ?_,λhc => ?_⟩)
 . have hc:key x=(infR:Int):=by simp only[decide_eq_true_eq]at hc; exact hc.2
   refine⟨_,rfl,?_⟩
   unfold endE; rw[if_pos hc]; exact .infty V1 (.inl rfl)
 have hc:key x≠(infR:Int):=by simp only[decide_eq_false_iff_not]at hc; exact λe=>hc ⟨h,e⟩
 refine(y0d h.1).mono λv V2 _ hv=>⟨_,hv,λhd => ?_,λhd => ?_⟩
 . have hd:key x = -(infR:Int):=by simp only[decide_eq_true_eq]at hd; exact hd.2
   refine⟨_,rfl,?_⟩
   unfold endE; rw[if_neg hc,if_pos hd]; exact .infty V2 (.inr rfl)
 have hd:key x ≠ -(infR:Int):=by simp only[decide_eq_false_iff_not]at hd; exact λe=>hd ⟨h,e⟩
 have hf:finW x:=by
  refine⟨h.1,?_⟩
  have a:=z0n h.1
  have:(key x).natAbs<infR:=by omega
  omega
 refine(W0s hf).mono λv V3 _ ⟨r,hv,hr⟩=>⟨r,hv,_,rfl,?_⟩
 unfold endE; rw[if_neg hc,if_neg hd]; exact⟨rfl,hr,.inl rfl⟩
theorem s0h{V:View}(a b:Int):a00 Tryz.prog Z0e #[.int .i64 a,.int .i64 b] V λv _=>v = .int .i64 (cmpZ a b):=by
 have nan:∀ {V:View} (a:Int),a00 Tryz.prog z0h #[.int .i64 a] V λv _=>v = .bool false:=λa=>u0g a _ _ (by simp)
 refine t0e a b V _ ((nan a).mono λv V1 _ hv=>⟨_,hv,(nan b).mono λv V2 _ hv=>⟨_,hv,λh=>absurd h (by simp),λ_=>⟨λh=>absurd h (by simp),λ_=>⟨λh => ?_,λh=>⟨λh' => ?_,λh' => ?_⟩⟩⟩⟩⟩)
 . rw[s0n (by simpa using h)]
 . rw[u0n (by simpa using h')]
 . simp only[decide_eq_false_iff_not]at h h'
   rw[t0n (by omega)]
theorem B12(x y:Rat):(⟨x,0⟩:Cq).cmp ⟨y,0⟩=cmpR x y:=by
 unfold Cq.cmp
 dsimp only
 by_cases c:cmpR x y=0
 . rw[c]; rw[if_neg (by simp)]; unfold cmpR; rw[if_neg (by grind),if_pos rfl]
 . rw[if_pos c]
theorem e0e{V:View}{a b:BdV}{e f:Eb}(ha:BdAt V a e)(hb:BdAt V b f)(hz:e.num.sz<=2^40)(hw:f.num.sz<=2^40) :
 a00 Tryz.prog Q0r #[a.val,b.val] V λv _=>v = .int .i64 (e.cmp f):=by
 have ia:=ha.inf
 have ib:=hb.inf
 refine G0p a b V _ ⟨λh => ?_,λh=>⟨λh' => ?_,λh' => ?_⟩⟩
 . have h:e.inf≠0:=by rw[<-ia]; simpa using h
   refine(s0h a.inf b.inf).mono λv V1 _ hv=>⟨_,hv,?_⟩
   unfold Eb.cmp; rw[if_pos (.inl h),ia,ib]
 . have h':f.inf≠0:=by rw[<-ib]; simpa using h'
   refine(s0h a.inf b.inf).mono λv V1 _ hv=>⟨_,hv,?_⟩
   unfold Eb.cmp; rw[if_pos (.inr h'),ia,ib]
 . have h:e.inf=0:=by rw[<-ia]; simpa using h
   have h':f.inf=0:=by rw[<-ib]; simpa using h'
   refine(H08 ha.num hb.num hz hw).mono λv V1 _ hv=>⟨_,hv,?_⟩
   unfold Eb.cmp; rw[if_neg (by rw[h,h']; simp)]
   exact congrArg _ (B12 e.x f.x)
theorem U0y:(Eb.fin 0).num.sz<=1:=x09
theorem k06{V:View}{a:BdV}{e:Eb}(ha:BdAt V a e)(hz:e.num.sz<=2^40):a00 Tryz.prog y0c #[a.val] V λv _=>v = .int .i64 e.sign :=
 g0n a V _ ((e0e ha (BdAt.zero V) hz (Nat.le_trans U0y (by decide))).mono λv V1 _ hv=>⟨_,hv,rfl⟩)
theorem H0k{V:View}{a:BdV}{e:Eb}(ha:BdAt V a e):a00 Tryz.prog W0r #[a.val] V λv V'=>∃b:BdV,v=b.val/\BdAt V' b e.neg:=by
 refine H0p a V _ ((o0h ha.num).mono λv V1 _ ⟨r,hv,hr⟩=>⟨r,hv,_,rfl,?_⟩)
 have ia:=ha.inf
 have hr':=ha.range
 have e1:i64.wrap (0-a.inf) = -e.inf:=by rw[i64w (by omega) (by omega)]; omega
 refine⟨e1,?_,Eb.neg_ok ha.ok⟩
 have : -e.num=e.neg.num:=Z0l e.x
 rw[<-this]; exact hr
theorem f0e{V:View}{a b:BdV}{e f:Eb}(ha:BdAt V a e)(hb:BdAt V b f)(hz:e.num.sz<=2^40)(hw:f.num.sz<=2^40) :
 a00 Tryz.prog N0r #[a.val,b.val] V λv V'=>∃c:BdV,v=c.val/\BdAt V' c (e.add f):=by
 have ia:=ha.inf
 have ib:=hb.inf
 refine I0p a b V _ ⟨λh => ?_,λh=>⟨λh' => ?_,λh' => ?_⟩⟩
 . have h:e.inf≠0:=by rw[<-ia]; simpa using h
   refine⟨a,rfl,?_⟩
   unfold Eb.add; rw[if_pos h]; exact ha
 . have h:e.inf=0:=by rw[<-ia]; simpa using h
   have h':f.inf≠0:=by rw[<-ib]; simpa using h'
   refine⟨b,rfl,?_⟩
   unfold Eb.add; rw[if_neg (by rw[h]; simp),if_pos h']; exact hb
 . have h:e.inf=0:=by rw[<-ia]; simpa using h
   have h':f.inf=0:=by rw[<-ib]; simpa using h'
   refine(g06 ha.num hb.num hz hw).mono λv V1 _ ⟨r,hv,hr⟩=>⟨r,hv,_,rfl,?_⟩
   unfold Eb.add; rw[if_neg (by rw[h]; simp),if_neg (by rw[h']; simp)]
   refine⟨rfl,?_,.inl rfl⟩
   have:e.num+f.num=(⟨0,e.x+f.x⟩:Eb).num:=Y0l e.x f.x
   rw[<-this]; exact hr
theorem g0e{V:View}{a b:BdV}{e f:Eb}(ha:BdAt V a e)(hb:BdAt V b f)(hz:e.num.sz<=2^40)(hw:f.num.sz<=2^40) :
 a00 Tryz.prog O0r #[a.val,b.val] V λv V'=>∃c:BdV,v=c.val/\BdAt V' c (e.mul f):=by
 have ia:=ha.inf
 have ib:=hb.inf
 have key:¬(e.inf=0/\f.inf=0)->∀ {W:View},V.le W->a00 Tryz.prog y0c #[a.val] W λv V2=>∃r2:Int,v = .int .i64 r2/\a00 Tryz.prog y0c #[b.val] V2 λv V3=>∃r3:Int,v = .int .i64 r3 /\
  ∃c:BdV,(BdV.mk (i64.wrap (r2*r3)) (NumV.mk (WhV.mk false (Sl.mk none 0 0)) (WhV.mk false (Sl.mk none 0 0)) (Sl.mk none 0 0))).val=c.val/\BdAt V3 c (e.mul f):=by
  intro hn W hle
  refine(k06 (ha.le hle) hz).mono λv V2 l2 hv=>⟨_,hv,(k06 (hb.le (View.le_trans hle l2)) hw).mono λv V3 _ hv=>⟨_,hv,_,rfl,?_⟩⟩
  have r1:e.sign = -1\/e.sign=0\/e.sign=1:=Eb.cmp_range _ _
  have r2:f.sign = -1\/f.sign=0\/f.sign=1:=Eb.cmp_range _ _
  have hm:=Eb.mul_ok e f
  unfold Eb.mul at hm ⊢
  rw[if_neg hn]at hm ⊢
  have:i64.wrap (e.sign*f.sign)=e.sign*f.sign:=by
   rcases r1 with r1|r1|r1<;>rcases r2 with r2|r2|r2<;>rw[r1,r2]<;>decide
  rw[this]; exact .signs V3 hm
 refine J0p a b V _ ⟨λh=>⟨λh' => ?_,λh' => ?_⟩,λh => ?_⟩
 . have h:e.inf=0:=by rw[<-ia]; simpa using h
   have h':f.inf=0:=by rw[<-ib]; simpa using h'
   refine(A04 ha.num hb.num hz hw).mono λv V1 _ ⟨r,hv,hr⟩=>⟨r,hv,_,rfl,?_⟩
   unfold Eb.mul; rw[if_pos ⟨h,h'⟩]
   refine⟨rfl,?_,.inl rfl⟩
   have:e.num*f.num=(⟨0,e.x*f.x⟩:Eb).num:=X0l e.x f.x
   rw[<-this]; exact hr
 . have h':f.inf≠0:=by rw[<-ib]; simpa using h'
   exact key (λg=>h' g.2) (View.le_refl V)
 . have h:e.inf≠0:=by rw[<-ia]; simpa using h
   exact key (λg=>h g.1) (View.le_refl V)
theorem o0w(e:Eb):e.neg.num.sz=e.num.sz:=by
 have : -e.num=e.neg.num:=Z0l e.x
 rw[<-this]; exact e0d _
theorem w09(e f:Eb):(e.add f).num.sz<=e.num.sz+f.num.sz+1:=by
 unfold Eb.add; split
 . omega
 . split
   . omega
   . have:e.num+f.num=(⟨0,e.x+f.x⟩:Eb).num:=Y0l e.x f.x
     rw[<-this]; exact f0b _ _
theorem A0d(e f:Eb):(e.mul f).num.sz<=e.num.sz+f.num.sz+1:=by
 unfold Eb.mul; split
 . have:e.num*f.num=(⟨0,e.x*f.x⟩:Eb).num:=X0l e.x f.x
   rw[<-this]; exact Z03 _ _
 . exact Nat.le_trans x09 (by omega)
def bdC(V:View)(x:List Value)(e:Eb):Prop:=∃b:BdV,x=b.val.cells.toList/\BdAt V b e
theorem bdC.le{V V':View}(hle:V.le V')(x:List Value)(e:Eb)(h:bdC V x e):bdC V' x e:=by
 obtain⟨b,e1,hb⟩:=h; exact⟨b,e1,hb.le hle⟩
def X0s(V:View)(s:Sl)(es:List Eb):Prop:=k00 6 bdC V s es
theorem X0s.le{V V':View}(hle:V.le V'){s:Sl}{es:List Eb}(h:X0s V s es):X0s V' s es:=k00.le (bdC.le hle) hle h
theorem q0w{V:View}{a b:BdV}{e f:Eb}{p:Option Addr}{way:Int}(ha:BdAt V a e)(hb:BdAt V b f)(hz:e.num.sz<=2^40)(hw:f.num.sz<=2^40)(hp:V.load p=some (.int .i64 way)) :
 a00 Tryz.prog a0p #[a.val,b.val,.pointer p] V λv _=>v = .bool (decide (e.cmp f=way)) :=
 i0n a b p V _ ⟨way,hp,(e0e ha hb hz hw).mono λv V1 _ hv=>⟨_,hv,by
  congr 1⟩⟩
theorem M05(way:Int):∀ {es:List Eb} {i:Nat} (h:i+1<es.length),Eb.pick way (es.take (i+2))=if Eb.cmp es[i+1] (Eb.pick way (es.take (i+1)))=way then es[i+1]else Eb.pick way (es.take (i+1))
 | [],_,h=>by simp at h
 | e::es,i,h=>by
   have hi:i<es.length:=by simpa using h
   have e1:(e::es).take (i+2)=e::es.take (i+1):=rfl
   have e2:(e::es).take (i+1)=e::es.take i:=rfl
   have e3:es.take (i+1)=es.take i++[es[i]]:=by rw[List.take_add_one]; simp[hi]
   have e4:(e::es)[i+1]=es[i]:=rfl
   rw[e1,e2,e3,e4]
   show List.foldl _ e (es.take i++[es[i]])=_
   rw[List.foldl_append]; rfl
theorem E10(a:Option Addr)(k:Nat):Option.map (λq=>Addr.add q (Int.toNat (k:Int)*6)) (Option.map (λq=>Addr.add q (Int.toNat 1*6)) a)=Option.map (λq=>Addr.add q ((k+1)*6)) a:=by
 rw[Option.map_map]
 congr 1
 funext q
 show(q.add (Int.toNat 1*6)).add (Int.toNat (k:Int)*6)=_
 rw[F0c,Int.toNat_natCast]
 congr 1
 show 1*6+k*6=(k+1)*6
 omega
theorem H0q{V:View}{s:Sl}{es:List Eb}{way:Int}(h:X0s V s es)(h0:es≠[])(hn:es.length<=2^32)(hS:∀e∈es,e.num.sz<=2^40) :
 a00 Tryz.prog e0v #[.int .i64 way,s.v] V λv V'=>∃b:BdV,v=b.val/\BdAt V' b (Eb.pick way es):=by
 have hl:=h.len
 have hcap:=h.cap
 have h1:1<=es.length:=by
  rcases Nat.eq_zero_or_pos es.length with c|c
  . exact absurd (List.eq_nil_of_length_eq_zero c) h0
  . exact c
 refine B0s way s V _ (λ_ x V'=>∃i:Nat,x.t16=i/\i+1<=es.length/\BdAt V' x.o6 (Eb.pick way (es.take (i+1)))/\(Eb.pick way (es.take (i+1))).num.sz<=2^40) (λ_ x _=>(es.length-x.t16).toNat) ?_
 intro b1 V1 l1 hb1
 obtain⟨hb,x,⟨b0,hx,hb0⟩,_,hh,hs⟩:=k00.get (h.le l1) (t:=0) (by omega) (z:=es[0]) (by simp)
 refine⟨hb,b0,hx▸hh,hs,⟨by omega,by omega,by omega⟩,⟨0,rfl,h1,?_,?_⟩,?_⟩
 . have:es.take (0+1)=[es[0]]:=by
     cases es with
     | nil=>simp at h1
     | cons e es=>simp
   rw[this]; exact hb0
 . have:es.take (0+1)=[es[0]]:=by
     cases es with
     | nil=>simp at h1
     | cons e es=>simp
   rw[this]; exact hS _ (List.getElem_mem _)
 rintro⟨t,o4,o6⟩ V2 l2 ⟨i,rfl,hi,ho,hz⟩
 dsimp only at ho hz ⊢
 have hlen:((((((s.len:Nat):Int)).toNat-Int.toNat 1:Nat):Int))=(es.length:Int)-1:=by rw[Int.toNat_natCast,hl]; show((es.length-1:Nat):Int)=_; omega
 rw[hlen]
 refine⟨λhlt => ?_,λhge => ?_⟩
 . simp only[decide_eq_true_eq]at hlt
   have hi2:i+1<es.length:=by omega
   have hc1:¬s.cap=Int.toNat 1:=by show ¬s.cap=1; omega
   rw[if_neg hc1,E10]
   obtain⟨hb',x',⟨b',hx',hb''⟩,_,hh',hs'⟩:=k00.get (h.le (View.le_trans l1 l2)) (t:=((i+1:Nat):Int)) (by omega) (z:=es[i+1]) (by rw[Int.toNat_natCast]; simp[hi2])
   rw[Int.toNat_natCast]at hh' hs'
   have hsm:(Option.map (λq=>Addr.add q (Int.toNat 1*6)) s.a).isSome=true:=by
    have:=hb'.2.2
    rw[Option.isSome_map]; exact this
   refine⟨⟨by omega,by omega,hsm⟩,b',hx'▸hh',hs',?_⟩
   have hp:V2.load (some (Addr.mk b1 0 none))=some (.int .i64 way):=Q02 l2 (by simp[View.load,hb1])
   refine(q0w hb'' ho (hS _ (List.getElem_mem _)) hz hp).mono λv V3 l3 hv=>⟨_,hv,λhc => ?_,λhc => ?_⟩
   . simp only[decide_eq_true_eq]at hc
     rw[i64w (by omega) (by omega)]
     refine⟨⟨i+1,by omega,by omega,?_,?_⟩,by omega⟩
     . rw[M05 way hi2,if_pos hc]; exact hb''.le l3
     . rw[M05 way hi2,if_pos hc]; exact hS _ (List.getElem_mem _)
   . simp only[decide_eq_false_iff_not]at hc
     rw[i64w (by omega) (by omega)]
     refine⟨⟨i+1,by omega,by omega,?_,?_⟩,by omega⟩
     . rw[M05 way hi2,if_neg hc]; exact ho.le l3
     . rw[M05 way hi2,if_neg hc]; exact hz
 . simp only[decide_eq_false_iff_not]at hge
   have:i+1=es.length:=by omega
   rw[this,List.take_length]at ho
   exact⟨_,rfl,ho⟩
theorem J0g{V:View}{s:Sl}{es:List Eb}(h:X0s V s es)(h0:es≠[])(hn:es.length<=2^32)(hS:∀e∈es,e.num.sz<=2^40) :
 a00 Tryz.prog E0r #[s.v] V λv V'=>∃b:BdV,v=b.val/\BdAt V' b (Eb.pick (-1) es) :=
 K0p s V _ ((H0q h h0 hn hS).mono λ_ _ _ ⟨b,hv,hb⟩=>⟨b,hv,b,rfl,hb⟩)
theorem o09{V:View}{s:Sl}{es:List Eb}(h:X0s V s es)(h0:es≠[])(hn:es.length<=2^32)(hS:∀e∈es,e.num.sz<=2^40) :
 a00 Tryz.prog Z0j #[s.v] V λv V'=>∃b:BdV,v=b.val/\BdAt V' b (Eb.pick 1 es) :=
 Q0i s V _ ((H0q h h0 hn hS).mono λ_ _ _ ⟨b,hv,hb⟩=>⟨b,hv,b,rfl,hb⟩)
structure EsAt (V:View) (s:SetV) (e:Es):Prop where
 lo:BdAt V s.lo e.lo
 hi:BdAt V s.hi e.hi
theorem EsAt.le{V V':View}{s:SetV}{e:Es}(hle:V.le V')(h:EsAt V s e):EsAt V' s e:=⟨h.lo.le hle,h.hi.le hle⟩
def Es.szle(e:Es)(S:Nat):Prop:=e.lo.num.sz<=S/\e.hi.num.sz<=S
theorem t0h{V:View}{s t:SetV}{e f:Es}(h:EsAt V s e)(k:EsAt V t f){S:Nat}(he:Es.szle e S)(hf:Es.szle f S)(hS:S<=2^30) :
 a00 Tryz.prog j0x #[s.val,t.val] V λv V'=>∃r:SetV,v=r.val/\EsAt V' r (e.add f) :=
 Q0v s t V _ ((f0e h.lo k.lo (by have:=he.1; omega) (by have:=hf.1; omega)).mono λv V1 l1 ⟨a,hv,ha⟩=>⟨a,hv,
  (f0e (h.hi.le l1) (k.hi.le l1) (by have:=he.2; omega) (by have:=hf.2; omega)).mono λv V2 l2 ⟨b,hv,hb⟩=>⟨b,hv,_,rfl,ha.le l2,hb⟩⟩)
theorem C0j{way:Int}{es:List Eb}{S:Nat}(h0:es≠[])(h:∀e∈es,e.num.sz<=S):(Eb.pick way es).num.sz<=S:=by
 cases es with
 | nil=>exact absurd rfl h0
 | cons e es =>
   show(List.foldl (λo x=>if x.cmp o=way then x else o) e es).num.sz<=S
   rcases Eb.pick_mem way es e with g|g
   . rw[g]; exact h e (by simp)
   . exact h _ (by simp[g])
theorem Y0n{V:View}{s:SetV}{e:Es}(h:EsAt V s e){S:Nat}(he:Es.szle e S)(hS:S<=2^30):a00 Tryz.prog k0v #[s.val] V λv _=>v = .bool e.zero:=by
 have a:=he.1; have b:=he.2
 refine C0s s V _ ((k06 h.lo (by omega)).mono λv V1 l1 hv=>⟨_,hv,λhc => ?_,λhc => ?_⟩)
 . refine(k06 (h.hi.le l1) (by omega)).mono λv V2 _ hv=>⟨_,hv,?_⟩
   unfold Es.zero; rw[hc]; rfl
 . unfold Es.zero; rw[hc]; rfl
theorem b0i:18442240474082181120=m04 (-(infR:Int)):=by decide
theorem Y0t:infR=m04 (infR:Int):=by decide
theorem p09{V:View}{s:SetV}{e:Es}(h:EsAt V s e){S:Nat}(he:Es.szle e S)(hS:S<=2^30):a00 Tryz.prog Z0u #[s.val] V λv _=>v=(Sk.v e.span).val:=by
 have a:=he.1; have b:=he.2
 have il:=h.lo.inf
 have ih:=h.hi.inf
 refine D0s s V _ (O0t.mono λv V1 l1 hv=>⟨_,hv,D0l.mono λv V2 l2 hv=>⟨_,hv,λh1 => ?_,λh1 => ?_⟩⟩)
 . have h1:e.lo.inf=0:=by rw[<-il]; simpa using h1
   refine(n0w (h.lo.num.le (View.le_trans l1 l2)) (by omega)).mono λv V3 l3 hv=>⟨_,hv,λh2 => ?_,λh2 => ?_⟩
   . have h2:e.hi.inf=0:=by rw[<-ih]; simpa using h2
     refine(N0l (h.hi.num.le (View.le_trans l1 (View.le_trans l2 l3))) (by omega)).mono λv V4 l4 hv=>⟨_,hv,?_⟩
     unfold Es.span Sk.v; rw[if_pos h1,if_pos h2]; rfl
   . have h2:e.hi.inf≠0:=by rw[<-ih]; simpa using h2
     unfold Es.span Sk.v; rw[if_pos h1,if_neg h2,<-Y0t]; rfl
 . have h1:e.lo.inf≠0:=by rw[<-il]; simpa using h1
   refine⟨λh2 => ?_,λh2 => ?_⟩
   . have h2:e.hi.inf=0:=by rw[<-ih]; simpa using h2
     refine(N0l (h.hi.num.le (View.le_trans l1 l2)) (by omega)).mono λv V4 l4 hv=>⟨_,hv,?_⟩
     unfold Es.span Sk.v; rw[if_neg h1,if_pos h2,<-b0i]; rfl
   . have h2:e.hi.inf≠0:=by rw[<-ih]; simpa using h2
     unfold Es.span Sk.v; rw[if_neg h1,if_neg h2,<-Y0t,<-b0i]
theorem O0l{V:View}{x:Nat}(h:okW x):a00 Tryz.prog D0r #[.float .f64 x] V λv _=>v = .float .f64 (m04 (key x)):=by
 have z0:okW 0:=⟨by decide,by decide⟩
 have k0:key 0=0:=by decide
 refine E0p x V _ ⟨λhc => ?_,λhc => ?_⟩
 . rw[z0f h z0,k0]at hc
   have hc:key x=0:=by simpa using hc
   rw[hc]; rfl
 . rw[z0f h z0,k0]at hc
   have hc:¬key x=0:=by simpa using hc
   have:m04 (key x)=x:=T0p h.1 (by rintro rfl; exact hc (by decide))
   rw[this]
theorem X0f{V:View}{x y:Nat}(hx:x<2^64)(hy:y<2^64):a00 Tryz.prog W0j #[.float .f64 x,.float .f64 y] V λv _=>v = .tuple #[(mkS x y).v.val,.int .i64 (mkE x y)]:=by
 have bad:∀ {e:Int},mkE x y=e->e≠0->(Value.tuple #[(SpV.mk 0 0).val,.int .i64 e]) = .tuple #[(mkS x y).v.val,.int .i64 (mkE x y)]:=by
  intro e he h0
  unfold mkS; rw[he,if_neg h0,d0u]
 refine O0i x y V _ ((u09 hx).mono λv V1 _ hv=>⟨_,hv,λhc => ?_,λhc => ?_⟩)
 . have hc:¬okW x:=by simpa using hc
   exact bad (by unfold mkE; rw[if_pos (.inl hc)]) (by decide)
 have h1:okW x:=by simpa using hc
 refine(u09 hy).mono λv V2 _ hv=>⟨_,hv,λhc => ?_,λhc => ?_⟩
 . have hc:¬okW y:=by simpa using hc
   exact bad (by unfold mkE; rw[if_pos (.inr (.inl hc))]) (by decide)
 have h2:okW y:=by simpa using hc
 refine(a0i hx).mono λv V3 _ hv=>⟨_,hv,λhc => ?_,λhc => ?_⟩
 . have hc:key x=(infR:Int):=by simp only[decide_eq_true_eq]at hc; exact hc.2
   exact bad (by unfold mkE; rw[if_pos (.inr (.inr (.inl hc)))]) (by decide)
 have h3:¬key x=(infR:Int):=by simp only[decide_eq_false_iff_not]at hc; exact λe=>hc ⟨h1,e⟩
 refine(y0d hy).mono λv V4 _ hv=>⟨_,hv,λhc => ?_,λhc => ?_⟩
 . have hc:key y = -(infR:Int):=by simp only[decide_eq_true_eq]at hc; exact hc.2
   exact bad (by unfold mkE; rw[if_pos (.inr (.inr (.inr hc)))]) (by decide)
 have h4:¬key y = -(infR:Int):=by simp only[decide_eq_false_iff_not]at hc; exact λe=>hc ⟨h2,e⟩
 have hno:¬(¬okW x\/¬okW y\/key x=(infR:Int)\/key y = -(infR:Int)):=by
  rintro(h|h|h|h)
  . exact h h1
  . exact h h2
  . exact h3 h
  . exact h4 h
 refine⟨λhc => ?_,λhc => ?_⟩
 . rw[i0h h1 h2]at hc
   have hc:key y<key x:=by simpa using hc
   exact bad (by unfold mkE; rw[if_neg hno,if_pos hc]) (by decide)
 . rw[i0h h1 h2]at hc
   have hc:¬key y<key x:=by simpa using hc
   have he:mkE x y=0:=by unfold mkE; rw[if_neg hno,if_neg hc]
   refine(O0l h1).mono λv V5 _ hv=>⟨_,hv,(O0l h2).mono λv V6 _ hv=>⟨_,hv,?_⟩⟩
   unfold mkS; rw[he,if_pos rfl]; rfl
theorem c0i{V:View}{s:Sk}(h:s.ok):a00 Tryz.prog a0v #[s.v.val] V λv V'=>∃r:SetV,v=r.val/\EsAt V' r s.set:=by
 refine z0s s.v V _ ((X0t (okK h.lo)).mono λv V1 _ ⟨a,hv,ha⟩=>⟨a,hv,(X0t (okK h.hi)).mono λv V2 l2 ⟨b,hv,hb⟩=>⟨b,hv,_,rfl,?_,?_⟩⟩)
 . rw[keyK h.lo]at ha; exact ha.le l2
 . rw[keyK h.hi]at hb; exact hb
theorem k08{s:Sk}(h:s.ok):Es.szle s.set 2100:=⟨U0s h.lo,U0s h.hi⟩
theorem W0y{V:View}{c d:CxV}(h1:c.re<2^64)(h2:c.im<2^64)(h3:d.re<2^64)(h4:d.im<2^64):a00 Tryz.prog H0u #[.complex .f64 c.re c.im,.complex .f64 d.re d.im] V λv _=>v = .tuple #[(mkB c.re c.im d.re d.im).v.val,.int .i64 (mkBE c.re c.im d.re d.im)]:=by
 refine A0s c d V _ ((X0f h1 h3).mono λv V1 _ hv=>⟨_,_,hv,(X0f h2 h4).mono λv V2 _ hv=>⟨_,_,hv,λhc => ?_,λhc => ?_⟩⟩)
 . have hc:mkE c.re d.re=1:=by simpa using hc
   have e:mkBE c.re c.im d.re d.im=1:=by unfold mkBE; rw[if_pos (.inl hc)]
   unfold mkB; rw[e]; rfl
 have c1:¬mkE c.re d.re=1:=by simpa using hc
 refine⟨λhc => ?_,λhc => ?_⟩
 . have hc:mkE c.im d.im=1:=by simpa using hc
   have e:mkBE c.re c.im d.re d.im=1:=by unfold mkBE; rw[if_pos (.inr hc)]
   unfold mkB; rw[e]; rfl
 have c2:¬mkE c.im d.im=1:=by simpa using hc
 have hno:¬(mkE c.re d.re=1\/mkE c.im d.im=1):=by rintro(h|h); exact c1 h; exact c2 h
 refine⟨λhc => ?_,λhc => ?_⟩
 . have hc:mkE c.re d.re≠0:=by simpa using hc
   have e:mkBE c.re c.im d.re d.im=7:=by unfold mkBE; rw[if_neg hno,if_pos (.inl hc)]
   unfold mkB; rw[e]; rfl
 have c3:¬mkE c.re d.re≠0:=by simpa using hc
 refine⟨λhc => ?_,λhc => ?_⟩
 . have hc:mkE c.im d.im≠0:=by simpa using hc
   have e:mkBE c.re c.im d.re d.im=7:=by unfold mkBE; rw[if_neg hno,if_pos (.inr hc)]
   unfold mkB; rw[e]; rfl
 have c4:¬mkE c.im d.im≠0:=by simpa using hc
 have e:mkBE c.re c.im d.re d.im=0:=by unfold mkBE; rw[if_neg hno,if_neg]; rintro(h|h); exact c3 h; exact c4 h
 unfold mkB; rw[e]; rfl
theorem Z0t{e f:Es}{S:Nat}(he:Es.szle e S)(hf:Es.szle f S):Es.szle (e.add f) (2*S+1):=by
 have a:=he.1; have b:=he.2; have c:=hf.1; have d:=hf.2
 have h1:=w09 e.lo f.lo; have h2:=w09 e.hi f.hi
 exact⟨show(e.lo.add f.lo).num.sz<=_ by omega,show(e.hi.add f.hi).num.sz<=_ by omega⟩
theorem D0e{V:View}{b:Nat}{r1 r2:BdV}{e1 e2:Eb}(h1:BdAt V r1 e1)(h2:BdAt V r2 e2)
 (hb:V b=some #[.int .i64 r1.inf,.bool r1.x.re.neg,r1.x.re.mag.v,.bool r1.x.im.neg,r1.x.im.mag.v,r1.x.under.v,.int .i64 r2.inf,.bool r2.x.re.neg,r2.x.re.mag.v,.bool r2.x.im.neg,r2.x.im.mag.v,r2.x.under.v]) :
 X0s V ⟨some ⟨b,0,none⟩,2,2⟩ [e1,e2] :=
 L06 (o:=r1.val.cells.toList++(r2.val.cells.toList++[])) hb ⟨_,_,rfl,rfl,⟨r1,rfl,h1⟩,_,_,rfl,rfl,⟨r2,rfl,h2⟩,rfl⟩ rfl
theorem Y0f{V:View}{x:Nat}(h:okW x):a00 Tryz.prog g0v #[.float .f64 x] V λv _=>v = .float .f64 (m04 (key x)):=by
 have z0:okW 0:=⟨by decide,by decide⟩
 have k0:key 0=0:=by decide
 refine y0s x V _ ⟨λhc => ?_,λhc => ?_⟩
 . rw[z0f h z0,k0]at hc
   have hc:key x=0:=by simpa using hc
   rw[hc]; rfl
 . rw[z0f h z0,k0]at hc
   have hc:¬key x=0:=by simpa using hc
   have:m04 (key x)=x:=T0p h.1 (by rintro rfl; exact hc (by decide))
   rw[this]
theorem i0a{V:View}{x y:Nat}(hx:x<2^64)(hy:y<2^64):a00 Tryz.prog B0i #[.float .f64 x,.float .f64 y] V λv _=>v = .tuple #[(mkS x y).v.val,.int .i64 (mkE x y)]:=by
 have bad:∀ {e:Int},mkE x y=e->e≠0->(Value.tuple #[(SpV.mk 0 0).val,.int .i64 e]) = .tuple #[(mkS x y).v.val,.int .i64 (mkE x y)]:=by
  intro e he h0
  unfold mkS; rw[he,if_neg h0,d0u]
 refine F0h x y V _ ((u09 hx).mono λv V1 _ hv=>⟨_,hv,λhc => ?_,λhc => ?_⟩)
 . have hc:¬okW x:=by simpa using hc
   exact bad (by unfold mkE; rw[if_pos (.inl hc)]) (by decide)
 have h1:okW x:=by simpa using hc
 refine(u09 hy).mono λv V2 _ hv=>⟨_,hv,λhc => ?_,λhc => ?_⟩
 . have hc:¬okW y:=by simpa using hc
   exact bad (by unfold mkE; rw[if_pos (.inr (.inl hc))]) (by decide)
 have h2:okW y:=by simpa using hc
 refine(a0i hx).mono λv V3 _ hv=>⟨_,hv,λhc => ?_,λhc => ?_⟩
 . have hc:key x=(infR:Int):=by simp only[decide_eq_true_eq]at hc; exact hc.2
   exact bad (by unfold mkE; rw[if_pos (.inr (.inr (.inl hc)))]) (by decide)
 have h3:¬key x=(infR:Int):=by simp only[decide_eq_false_iff_not]at hc; exact λe=>hc ⟨h1,e⟩
 refine(y0d hy).mono λv V4 _ hv=>⟨_,hv,λhc => ?_,λhc => ?_⟩
 . have hc:key y = -(infR:Int):=by simp only[decide_eq_true_eq]at hc; exact hc.2
   exact bad (by unfold mkE; rw[if_pos (.inr (.inr (.inr hc)))]) (by decide)
 have h4:¬key y = -(infR:Int):=by simp only[decide_eq_false_iff_not]at hc; exact λe=>hc ⟨h2,e⟩
 have hno:¬(¬okW x\/¬okW y\/key x=(infR:Int)\/key y = -(infR:Int)):=by
  rintro(h|h|h|h)
  . exact h h1
  . exact h h2
  . exact h3 h
  . exact h4 h
 refine⟨λhc => ?_,λhc => ?_⟩
 . rw[i0h h1 h2]at hc
   have hc:key y<key x:=by simpa using hc
   exact bad (by unfold mkE; rw[if_neg hno,if_pos hc]) (by decide)
 . rw[i0h h1 h2]at hc
   have hc:¬key y<key x:=by simpa using hc
   have he:mkE x y=0:=by unfold mkE; rw[if_neg hno,if_neg hc]
   refine(Y0f h1).mono λv V5 _ hv=>⟨_,hv,(Y0f h2).mono λv V6 _ hv=>⟨_,hv,?_⟩⟩
   unfold mkS; rw[he,if_pos rfl]; rfl
def I08(s t:Sk):Int:=if s.hi<t.lo then 1 else if t.hi<=s.lo then 2 else 0
theorem Z0c{V:View}{s t:Sk}(h:s.ok)(k:t.ok):a00 Tryz.prog I0o #[s.v.val,t.v.val] V λv _=>v = .int .i64 (I08 s t):=by
 refine f0n s.v t.v V _ ⟨λhc => ?_,λhc=>⟨λhd => ?_,λhd => ?_⟩⟩
 . have hc:decide (s.hi<t.lo)=true:=by rw[<-ltK h.hi k.lo]; exact hc
   unfold I08; rw[if_pos (by simpa using hc)]
 . have hc:decide (s.hi<t.lo)=false:=by rw[<-ltK h.hi k.lo]; exact hc
   have hd:decide (t.hi<=s.lo)=true:=by rw[<-geK h.lo k.hi]; exact hd
   unfold I08; rw[if_neg (by simpa using hc),if_pos (by simpa using hd)]
 . have hc:decide (s.hi<t.lo)=false:=by rw[<-ltK h.hi k.lo]; exact hc
   have hd:decide (t.hi<=s.lo)=false:=by rw[<-geK h.lo k.hi]; exact hd
   unfold I08; rw[if_neg (by simpa using hc),if_neg (by simpa using hd)]
theorem I0k{V:View}{c d:CxV}(h1:c.re<2^64)(h2:c.im<2^64)(h3:d.re<2^64)(h4:d.im<2^64):a00 Tryz.prog B0r #[.complex .f64 c.re c.im,.complex .f64 d.re d.im] V λv _=>v = .tuple #[(mkB c.re c.im d.re d.im).v.val,.int .i64 (mkBE c.re c.im d.re d.im)]:=by
 refine D0p c d V _ ((i0a h1 h3).mono λv V1 _ hv=>⟨_,_,hv,(i0a h2 h4).mono λv V2 _ hv=>⟨_,_,hv,λhc => ?_,λhc => ?_⟩⟩)
 . have hc:mkE c.re d.re=1:=by simpa using hc
   have e:mkBE c.re c.im d.re d.im=1:=by unfold mkBE; rw[if_pos (.inl hc)]
   unfold mkB; rw[e]; rfl
 have c1:¬mkE c.re d.re=1:=by simpa using hc
 refine⟨λhc => ?_,λhc => ?_⟩
 . have hc:mkE c.im d.im=1:=by simpa using hc
   have e:mkBE c.re c.im d.re d.im=1:=by unfold mkBE; rw[if_pos (.inr hc)]
   unfold mkB; rw[e]; rfl
 have c2:¬mkE c.im d.im=1:=by simpa using hc
 have hno:¬(mkE c.re d.re=1\/mkE c.im d.im=1):=by rintro(h|h); exact c1 h; exact c2 h
 refine⟨λhc => ?_,λhc => ?_⟩
 . have hc:mkE c.re d.re≠0:=by simpa using hc
   have e:mkBE c.re c.im d.re d.im=7:=by unfold mkBE; rw[if_neg hno,if_pos (.inl hc)]
   unfold mkB; rw[e]; rfl
 have c3:¬mkE c.re d.re≠0:=by simpa using hc
 refine⟨λhc => ?_,λhc => ?_⟩
 . have hc:mkE c.im d.im≠0:=by simpa using hc
   have e:mkBE c.re c.im d.re d.im=7:=by unfold mkBE; rw[if_neg hno,if_pos (.inr hc)]
   unfold mkB; rw[e]; rfl
 have c4:¬mkE c.im d.im≠0:=by simpa using hc
 have e:mkBE c.re c.im d.re d.im=0:=by unfold mkBE; rw[if_neg hno,if_neg]; rintro(h|h); exact c3 h; exact c4 h
 unfold mkB; rw[e]; rfl
theorem Z0f{V:View}{s t:Sk}(h:s.ok)(k:t.ok):a00 Tryz.prog S0u #[s.v.val,t.v.val] V λv _=>v=(Sk.v (s.set.add t.set).span).val:=by
 refine x0s s.v t.v V _ ((c0i h).mono λv V1 l1 ⟨a,hv,ha⟩=>⟨a,hv,(c0i k).mono λv V2 l2 ⟨b,hv,hb⟩=>⟨b,hv,?_⟩⟩)
 refine(t0h (ha.le l2) hb (k08 h) (k08 k) (by omega)).mono λv V3 l3 ⟨c,hv,hc⟩=>⟨c,hv,?_⟩
 exact(p09 hc (Z0t (k08 h) (k08 k)) (by omega)).mono λv V4 _ hv=>⟨_,hv,rfl⟩
theorem I0q{V:View}{b c:Bk}(h:b.ok)(k:c.ok):a00 Tryz.prog X0w #[b.v.val,c.v.val] V λv _=>v=(b.add c).v.val :=
 O0v b.v c.v V _ ((Z0f h.re k.re).mono λ_ _ _ hv=>⟨_,hv,(Z0f h.im k.im).mono λ_ _ _ hv=>⟨_,hv,rfl⟩⟩)
theorem X0y(x m k:Nat):(if decide (sgI x m<0)=true then -((m*2^k:Nat):Int)else((m*2^k:Nat):Int))=sgI x (m*2^k):=by
 by_cases z:m=0
 . subst z; rw[Nat.zero_mul]; unfold sgI; split<;>split<;>rfl
 . have hp:0<2^k:=Nat.pow_pos (by omega)
   have:0<m*2^k:=Nat.mul_pos (by omega) hp
   unfold sgI
   by_cases c:2^63<=x
   . rw[if_pos c,if_pos c,if_pos (by rw[decide_eq_true_iff]; omega)]
   . rw[if_neg c,if_neg c,if_neg (by rw[decide_eq_true_iff]; omega)]
theorem N0h{V:View}{x:Nat}(h:finW x):a00 Tryz.prog E0m #[.float .f64 x] V λv V'=>∃r:NumV,v=r.val/\QAt V' r ⟨fq x,0⟩:=by
 have h64:=h.1
 have hfl:fld x<2048:=by unfold fld; omega
 have hu:=G0g x
 have hml:=k0j x
 have hp52:(2:Int)^(min (Int.toNat 52) u64.bits)=((2^52:Nat):Int):=by decide
 have hp63:(2:Int)^(min (Int.toNat 63) u64.bits)=((2^63:Nat):Int):=by decide
 have e1:i64.wrap (u64.wrap (BitVec.toNat ((BitVec.ofInt u64.bits (Int.fdiv (x:Int) (2^(min (Int.toNat 52) (u64.bits))))) &&& (BitVec.ofInt u64.bits 2047))))=(fld x:Int):=by
  have:=z0d (x:=x / 2^52) (m:=2047) (by omega) (by omega)
  have e:x / 2^52 &&& 2047=fld x:=Nat.and_two_pow_sub_one_eq_mod (x / 2^52) 11
  rw[e]at this
  rw[hp52,M0f]
  rw[show(((2047:Nat)):Int)=2047 from rfl]at this
  rw[this,i64w (by omega) (by omega)]
 have e2:u64.wrap (BitVec.toNat ((BitVec.ofInt u64.bits (x:Int)) &&& (BitVec.ofInt u64.bits 4503599627370495)))=((x%2^52:Nat):Int):=by
  have:=z0d (x:=x) (m:=4503599627370495) (by omega) (by omega)
  have e:x &&& 4503599627370495=x%2^52:=Nat.and_two_pow_sub_one_eq_mod x 52
  rw[e]at this
  exact this
 have e3:((Int.fdiv (x:Int) (2^(min (Int.toNat 63) (u64.bits))):Int)==1)=decide (2^63<=x):=by
  rw[hp63,M0f]
  by_cases c:2^63<=x
  . have:x / 2^63=1:=by omega
    rw[this,decide_eq_true c]; rfl
  . have:x / 2^63=0:=by omega
    rw[this,decide_eq_false c]; rfl
 refine j0k x V _ ⟨x,L0f x,?_⟩
 rw[e1,e2,e3]
 have hw:∀ {V1:View} {s:Sl} {n:Nat},o00 V1 s n->n=mant x->a00 Tryz.prog Z08 #[.bool (decide (2^63<=x)),s.v] V1 λv V'=>∃r:WhV,v=r.val/\d02 V' r (sgI x (mant x)):=by
  intro V1 s n hs hn
  refine(K02 (decide (2^63<=x)) hs).mono λv V2 _ ⟨r,hv,hr⟩=>⟨r,hv,?_⟩
  subst hn
  unfold sgI
  by_cases c:2^63<=x
  . rw[decide_eq_true c]at hr; rw[if_pos c]; simpa using hr
  . rw[decide_eq_false c]at hr; rw[if_neg c]; simpa using hr
 have low:∀ {V:View} {r2:WhV} {k:Nat},d02 V r2 (sgI x (mant x))->(k:Int)=1075-(up1 x:Int)->∀(b2:Nat) (V6:View),View.le V V6->View.Fin V6->V6 b2=some #[.int .u32 1] ->
  a00 Tryz.prog Y0e #[(Sl.mk (some (Addr.mk b2 0 none)) 1 1).v,.int .i64 (k:Int)] V6 λv V7=>∃r5:Sl,v=r5.v/\a00 Tryz.prog A0i #[r2.val,(WhV.mk false (Sl.mk none 0 0)).val,r5.v] V7 λv V8=>∃r6:NumV,v=r6.val/\∃r:NumV,r6.val=r.val/\QAt V8 r ⟨fq x,0⟩:=by
  intro V r2 k hr hk b2 V6 l6 _ hb2
  refine(T04 (n:=k) (o00.lit (n:=1) hb2 (by omega) (by omega)) (Nat.le_trans Q0t (by decide)) (by omega)).mono λv V7 l7 ⟨r5,hv,h5⟩=>⟨r5,hv,?_⟩
  rw[Nat.one_mul]at h5
  have R:Rep ⟨fq x,0⟩ (sgI x (mant x)) 0 (2^k):=by
   refine⟨F13 k,?_,G0q _⟩
   have:=P0n (x:=x) (k:=k) (n:=0) h64 (by omega)
   rw[Nat.pow_zero,Nat.mul_one]at this
   exact this
  have b2k:=s06 k
  refine(B04 (hr.le (View.le_trans l6 l7)) (d02.zero V7) h5 R ?_ (by rw[Int.natAbs_zero,w06]; omega) (j09 (by omega))).mono λv V8 _ ⟨r6,hv,h6⟩=>⟨r6,hv,r6,rfl,h6⟩
  rw[l0j]; exact wn64 (by omega)
 refine⟨λhc => ?_,λhc => ?_⟩
 . have hc:((fld x:Nat):Int)=0:=by simpa using hc
   have hf0:fld x=0:=by omega
   have em:x%2^52=mant x:=by unfold mant; rw[if_pos hf0]
   have eu:up1 x=1:=by unfold up1; rw[if_pos hf0]
   rw[em]
   refine(i06 (n:=((mant x:Nat):Int)) (by omega) (by omega)).mono λv V1 _ ⟨s,hv,hs⟩=>⟨s,hv,?_⟩
   refine(hw hs (by omega)).mono λv V2 _ ⟨r,hv,hr⟩=>⟨r,hv,λg=>absurd g (by decide),λ_ => ?_⟩
   have w:i64.wrap (1075-1)=((1074:Nat):Int):=by decide
   rw[w]
   exact low (k:=1074) hr (by omega)
 . have hf0:fld x≠0:=λe=>by rw[e]at hc; simp at hc
   have eu:up1 x=fld x:=by unfold up1; rw[if_neg hf0]
   have e4:u64.wrap (BitVec.toNat ((BitVec.ofInt u64.bits ((x%2^52:Nat):Int)) ||| (BitVec.ofInt u64.bits 4503599627370496)))=((mant x:Nat):Int):=by
    have:=E0l (x:=x%2^52) (m:=4503599627370496) (by omega) (by omega)
    have hor:=Nat.two_pow_add_eq_or_of_lt (i:=52) (b:=x%2^52) (by omega) 1
    have e:x%2^52 ||| 4503599627370496=mant x:=by
     rw[Nat.or_comm]
     have h1:2^52*1=4503599627370496:=by decide
     rw[h1]at hor
     rw[<-hor]; unfold mant; rw[if_neg (by omega)]; omega
    rw[e]at this
    exact this
   rw[e4]
   refine(i06 (n:=((mant x:Nat):Int)) (by omega) (by omega)).mono λv V1 _ ⟨s,hv,hs⟩=>⟨s,hv,?_⟩
   refine(hw hs (by omega)).mono λv V2 _ ⟨r,hv,hr⟩=>⟨r,hv,λhg => ?_,λhg => ?_⟩
   . have hg:((fld x:Nat):Int)>=1075:=by simpa using hg
     obtain⟨k,hk⟩:∃k:Nat,fld x=1075+k:=⟨fld x-1075,by omega⟩
     have w:i64.wrap (((fld x:Nat):Int)-1075)=(k:Int):=by rw[i64w (by omega) (by omega)]; omega
     rw[w]
     have hr2:=hr.2
     rw[l0j]at hr2
     refine(T04 (n:=k) hr2 (Nat.le_trans (wn64 (by omega)) (by decide)) (by omega)).mono λv V3 l3 ⟨r3,hv,h3⟩=>⟨r3,hv,?_⟩
     refine(K02 r.neg h3).mono λv V4 l4 ⟨r4,hv,h4⟩=>⟨r4,hv,λb V5 l5 _ hb=>⟨_,rfl,?_⟩⟩
     rw[hr.1,X0y]at h4
     have e5:fq x=((sgI x (mant x*2^k):Int):Rat):=by
      have:=P0n (x:=x) (k:=0) (n:=k) h64 (by omega)
      rw[this,Nat.pow_zero,Rat.div_def]
      have:((1:Nat):Rat)⁻¹=1:=by decide +kernel
      rw[this,Rat.mul_one]
     have q:=m0a (sgI x (mant x*2^k))
     rw[<-e5]at q
     exact⟨by rw[q.1]; exact h4.le l5,by rw[q.2.1]; exact d02.zero _,by rw[q.2.2]; exact o00.lit (n:=1) hb (by omega) (by omega)⟩
   . have hg:¬((fld x:Nat):Int)>=1075:=by simpa using hg
     obtain⟨k,hk⟩:∃k:Nat,(k:Int)=1075-(fld x:Int):=⟨1075-fld x,by omega⟩
     have w:i64.wrap (1075-((fld x:Nat):Int))=(k:Int):=by rw[i64w (by omega) (by omega)]; omega
     rw[w]
     exact low hr (by omega)
theorem D0j{V:View}{x:Nat}(h:finW x):a00 Tryz.prog c0p #[.float .f64 x] V λv V'=>∃r:NumV,v = .tuple #[r.val,.int .i64 0]/\QAt V' r ⟨fq x,0⟩:=by
 refine U0m x V _ ((M0h h.1).mono λv V1 _ hv=>⟨_,hv,λhc => ?_,λ_ => ?_⟩)
 . rw[decide_eq_true h.2]at hc; exact absurd hc (by decide)
 . exact(N0h h).mono λv V2 _ ⟨r,hv,hr⟩=>⟨r,hv,r,rfl,hr⟩
theorem C05{V:View}{k:Int}(hk:inK k):a00 Tryz.prog q0x #[.float .f64 (m04 k)] V λv V'=>∃b:BdV,v=b.val/\BqAt V' b (endE k):=by
 have h:=okK hk
 have hx:=keyK hk
 have whole:∀ {V:View},a00 Tryz.prog W09 #[.int .i64 0] V λv V'=>∃r:NumV,v=r.val/\QAt V' r ⟨((0:Int):Rat),0⟩:=j06 (by omega) (by omega)
 refine J0v (m04 k) V _ ((a0i h.1).mono λv V1 _ hv=>⟨_,hv,λhc => ?_,λhc => ?_⟩)
 . have hc:k=(infR:Int):=by simp only[decide_eq_true_eq]at hc; rw[<-hx]; exact hc.2
   refine whole.mono λv V2 _ ⟨r,hv,hr⟩=>⟨r,hv,_,rfl,?_⟩
   unfold endE; rw[if_pos hc]; exact .zero hr (.inr ⟨rfl,.inl rfl⟩)
 have hc:k≠(infR:Int):=by simp only[decide_eq_false_iff_not]at hc; rw[hx]at hc; exact λe=>hc ⟨h,e⟩
 refine(y0d h.1).mono λv V2 _ hv=>⟨_,hv,λhd => ?_,λhd => ?_⟩
 . have hd:k = -(infR:Int):=by simp only[decide_eq_true_eq]at hd; rw[<-hx]; exact hd.2
   refine whole.mono λv V2 _ ⟨r,hv,hr⟩=>⟨r,hv,_,rfl,?_⟩
   unfold endE; rw[if_neg hc,if_pos hd]; exact .zero hr (.inr ⟨rfl,.inr rfl⟩)
 have hd:k ≠ -(infR:Int):=by simp only[decide_eq_false_iff_not]at hd; rw[hx]at hd; exact λe=>hd ⟨h,e⟩
 have hf:finW (m04 k):=by unfold inK at hk; exact K0x (by omega) (by omega)
 refine(D0j hf).mono λv V3 _ ⟨r,hv,hr⟩=>⟨r,0,hv,?_⟩
 have e:fq (m04 k)=fkq k:=by rw[k11,hx]
 rw[e]at hr
 refine(C04 hr).mono λv V4 _ ⟨b,hv,hb⟩=>⟨b,hv,b,rfl,?_⟩
 unfold endE; rw[if_neg hc,if_neg hd]; exact hb
def bqC(V:View)(x:List Value)(e:Eb):Prop:=∃b:BdV,x=b.val.cells.toList/\BqAt V b e
theorem bqC.le{V V':View}(hle:V.le V')(x:List Value)(e:Eb)(h:bqC V x e):bqC V' x e:=by
 obtain⟨b,e1,hb⟩:=h; exact⟨b,e1,hb.le hle⟩
def Y0s(V:View)(s:Sl)(es:List Eb):Prop:=k00 6 bqC V s es
theorem Y0s.le{V V':View}(hle:V.le V'){s:Sl}{es:List Eb}(h:Y0s V s es):Y0s V' s es:=k00.le (bqC.le hle) hle h
theorem d0i{es:List Eb}(h:0<es.length):es.take 1=[es[0]]:=by
 cases es with
 | nil=>simp at h
 | cons e es=>simp
theorem a0d{V:View}{s:Sl}{es:List Eb}(h:Y0s V s es)(h0:es≠[])(hn:es.length<=2^32)(hS:∀e∈es,e.num.sz<=2^38) :
 a00 Tryz.prog P0o #[s.v] V λv V'=>∃b:BdV,v=b.val/\BqAt V' b (Eb.pick (-1) es):=by
 have hl:=h.len
 have h1:1<=es.length:=by
  rcases Nat.eq_zero_or_pos es.length with c|c
  . exact absurd (List.eq_nil_of_length_eq_zero c) h0
  . exact c
 refine Z0m s V _ (λ_ x V'=>∃i:Nat,x.t4=((i+1:Nat):Int)/\i+1<=es.length/\BqAt V' x.o3 (Eb.pick (-1) (es.take (i+1)))/\(Eb.pick (-1) (es.take (i+1))).num.sz<=2^38) (λ_ x _=>(es.length-x.t4).toNat) ?_
 obtain⟨hb,x,⟨b0,hx,hb0⟩,_,hh,hs⟩:=k00.get h (t:=0) (by omega) (z:=es[0]) (by simp)
 refine⟨hb,b0,hx▸hh,hs,⟨0,rfl,h1,?_,?_⟩,?_⟩
 . rw[d0i h1]; exact hb0
 . rw[d0i h1]; exact hS _ (List.getElem_mem _)
 rintro⟨t,o2,o3⟩ V2 l2 ⟨i,rfl,hi,ho,hz⟩
 dsimp only at ho hz ⊢
 rw[hl]
 refine⟨λhlt => ?_,λhge => ?_⟩
 . simp only[decide_eq_true_eq]at hlt
   have hi2:i+1<es.length:=by omega
   obtain⟨hb',x',⟨b',hx',hb''⟩,_,hh',hs'⟩:=k00.get (h.le l2) (t:=((i+1:Nat):Int)) (by omega) (z:=es[i+1]) (by rw[Int.toNat_natCast]; simp[hi2])
   rw[hl]at hb'
   refine⟨hb',b',hx'▸hh',hs',?_⟩
   have wi:i64.wrap (((i+1:Nat):Int)+1)=((i+1+1:Nat):Int):=by rw[i64w (by omega) (by omega)]; omega
   have rg:=Eb.cmp_range es[i+1] (Eb.pick (-1) (es.take (i+1)))
   refine(W0f hb'' ho (hS _ (List.getElem_mem _)) hz).mono λv V3 l3 hv=>⟨_,hv,λhc => ?_,λhc => ?_⟩
   . simp only[decide_eq_true_eq]at hc
     refine⟨hb',b',X06 l3 (hx'▸hh'),hs',?_⟩
     rw[wi]
     refine⟨⟨i+1,rfl,by omega,?_,?_⟩,by omega⟩
     . rw[M05 (-1) hi2,if_pos (by omega)]; exact hb''.le l3
     . rw[M05 (-1) hi2,if_pos (by omega)]; exact hS _ (List.getElem_mem _)
   . simp only[decide_eq_false_iff_not]at hc
     rw[wi]
     refine⟨⟨i+1,rfl,by omega,?_,?_⟩,by omega⟩
     . rw[M05 (-1) hi2,if_neg (by omega)]; exact ho.le l3
     . rw[M05 (-1) hi2,if_neg (by omega)]; exact hz
 . simp only[decide_eq_false_iff_not]at hge
   have:i+1=es.length:=by omega
   rw[this,List.take_length]at ho
   exact⟨_,rfl,ho⟩
theorem j0a{V:View}{s:Sl}{es:List Eb}(h:Y0s V s es)(h0:es≠[])(hn:es.length<=2^32)(hS:∀e∈es,e.num.sz<=2^38) :
 a00 Tryz.prog s0c #[s.v] V λv V'=>∃b:BdV,v=b.val/\BqAt V' b (Eb.pick 1 es):=by
 have hl:=h.len
 have h1:1<=es.length:=by
  rcases Nat.eq_zero_or_pos es.length with c|c
  . exact absurd (List.eq_nil_of_length_eq_zero c) h0
  . exact c
 refine B0h s V _ (λ_ x V'=>∃i:Nat,x.t4=((i+1:Nat):Int)/\i+1<=es.length/\BqAt V' x.o3 (Eb.pick 1 (es.take (i+1)))/\(Eb.pick 1 (es.take (i+1))).num.sz<=2^38) (λ_ x _=>(es.length-x.t4).toNat) ?_
 obtain⟨hb,x,⟨b0,hx,hb0⟩,_,hh,hs⟩:=k00.get h (t:=0) (by omega) (z:=es[0]) (by simp)
 refine⟨hb,b0,hx▸hh,hs,⟨0,rfl,h1,?_,?_⟩,?_⟩
 . rw[d0i h1]; exact hb0
 . rw[d0i h1]; exact hS _ (List.getElem_mem _)
 rintro⟨t,o2,o3⟩ V2 l2 ⟨i,rfl,hi,ho,hz⟩
 dsimp only at ho hz ⊢
 rw[hl]
 refine⟨λhlt => ?_,λhge => ?_⟩
 . simp only[decide_eq_true_eq]at hlt
   have hi2:i+1<es.length:=by omega
   obtain⟨hb',x',⟨b',hx',hb''⟩,_,hh',hs'⟩:=k00.get (h.le l2) (t:=((i+1:Nat):Int)) (by omega) (z:=es[i+1]) (by rw[Int.toNat_natCast]; simp[hi2])
   rw[hl]at hb'
   refine⟨hb',b',hx'▸hh',hs',?_⟩
   have wi:i64.wrap (((i+1:Nat):Int)+1)=((i+1+1:Nat):Int):=by rw[i64w (by omega) (by omega)]; omega
   have rg:=Eb.cmp_range es[i+1] (Eb.pick 1 (es.take (i+1)))
   refine(W0f hb'' ho (hS _ (List.getElem_mem _)) hz).mono λv V3 l3 hv=>⟨_,hv,λhc => ?_,λhc => ?_⟩
   . simp only[decide_eq_true_eq]at hc
     refine⟨hb',b',X06 l3 (hx'▸hh'),hs',?_⟩
     rw[wi]
     refine⟨⟨i+1,rfl,by omega,?_,?_⟩,by omega⟩
     . rw[M05 1 hi2,if_pos (by omega)]; exact hb''.le l3
     . rw[M05 1 hi2,if_pos (by omega)]; exact hS _ (List.getElem_mem _)
   . simp only[decide_eq_false_iff_not]at hc
     rw[wi]
     refine⟨⟨i+1,rfl,by omega,?_,?_⟩,by omega⟩
     . rw[M05 1 hi2,if_neg (by omega)]; exact ho.le l3
     . rw[M05 1 hi2,if_neg (by omega)]; exact hz
 . simp only[decide_eq_false_iff_not]at hge
   have:i+1=es.length:=by omega
   rw[this,List.take_length]at ho
   exact⟨_,rfl,ho⟩
theorem l06{V:View}{a b:BdV}{e f:Eb}(ha:BqAt V a e)(hb:BqAt V b f)(hz:e.num.sz<=2^30)(hw:f.num.sz<=2^30):a00 Tryz.prog J0o #[a.val,b.val] V λv _=>v=(Sk.v (Es.span ⟨e,f⟩)).val:=by
 have il:=ha.inf
 have ih:=hb.inf
 refine a0n a b V _ (O0t.mono λv V1 l1 hv=>⟨_,hv,D0l.mono λv V2 l2 hv=>⟨_,hv,λh1 => ?_,λh1 => ?_⟩⟩)
 . have h1:e.inf=0:=by rw[<-il]; simpa using h1
   refine(B0j (ha.num.le (View.le_trans l1 l2)) hz).mono λv V3 l3 hv=>⟨_,hv,λh2 => ?_,λh2 => ?_⟩
   . have h2:f.inf=0:=by rw[<-ih]; simpa using h2
     refine(Y0c (hb.num.le (View.le_trans l1 (View.le_trans l2 l3))) hw).mono λv V4 l4 hv=>⟨_,hv,?_⟩
     unfold Es.span Sk.v; rw[if_pos h1,if_pos h2]; rfl
   . have h2:f.inf≠0:=by rw[<-ih]; simpa using h2
     unfold Es.span Sk.v; rw[if_pos h1,if_neg h2,<-Y0t]; rfl
 . have h1:e.inf≠0:=by rw[<-il]; simpa using h1
   refine⟨λh2 => ?_,λh2 => ?_⟩
   . have h2:f.inf=0:=by rw[<-ih]; simpa using h2
     refine(Y0c (hb.num.le (View.le_trans l1 l2)) hw).mono λv V4 l4 hv=>⟨_,hv,?_⟩
     unfold Es.span Sk.v; rw[if_neg h1,if_pos h2,<-b0i]; rfl
   . have h2:f.inf≠0:=by rw[<-ih]; simpa using h2
     unfold Es.span Sk.v; rw[if_neg h1,if_neg h2,<-Y0t,<-b0i]
theorem c0b{k:Int}(h:inK k):(endE k).num.sz<=2^12:=Nat.le_trans (U0s h) (by omega)
theorem k0a{V:View}{s t:Sk}(h:s.ok)(k:t.ok):a00 Tryz.prog C0i #[s.v.val,t.v.val] V λv _=>v=(Sk.v (s.set.add t.set).span).val:=by
 have a1:=c0b h.lo; have a2:=c0b h.hi; have a3:=c0b k.lo; have a4:=c0b k.hi
 have s1:=w09 (endE s.lo) (endE t.lo); have s2:=w09 (endE s.hi) (endE t.hi)
 refine C0h s.v t.v V _ ((C05 h.lo).mono λv V1 l1 ⟨r1,hv,h1⟩=>⟨r1,hv,(C05 k.lo).mono λv V2 l2 ⟨r2,hv,h2⟩=>⟨r2,hv,?_⟩⟩)
 refine(j08 (h1.le l2) h2 (by omega) (by omega)).mono λv V3 l3 ⟨r3,hv,h3⟩=>⟨r3,hv,?_⟩
 refine(C05 h.hi).mono λv V4 l4 ⟨r4,hv,h4⟩=>⟨r4,hv,(C05 k.hi).mono λv V5 l5 ⟨r5,hv,h5⟩=>⟨r5,hv,?_⟩⟩
 refine(j08 (h4.le l5) h5 (by omega) (by omega)).mono λv V6 l6 ⟨r6,hv,h6⟩=>⟨r6,hv,?_⟩
 exact(l06 (h3.le (View.le_trans l4 (View.le_trans l5 l6))) h6 (by omega) (by omega)).mono λv V7 _ hv=>⟨_,hv,rfl⟩
theorem K0g{V:View}{b c:Bk}(h:b.ok)(k:c.ok):a00 Tryz.prog X0j #[b.v.val,c.v.val] V λv _=>v=(b.add c).v.val :=
 N0i b.v c.v V _ ((k0a h.re k.re).mono λ_ _ _ hv=>⟨_,hv,(k0a h.im k.im).mono λ_ _ _ hv=>⟨_,hv,rfl⟩⟩)
theorem Y0y{V:View}{b:Nat}{r1 r2:BdV}{e1 e2:Eb}(h1:BqAt V r1 e1)(h2:BqAt V r2 e2)
 (hb:V b=some #[.int .i64 r1.inf,.bool r1.x.re.neg,r1.x.re.mag.v,.bool r1.x.im.neg,r1.x.im.mag.v,r1.x.under.v,.int .i64 r2.inf,.bool r2.x.re.neg,r2.x.re.mag.v,.bool r2.x.im.neg,r2.x.im.mag.v,r2.x.under.v]) :
 Y0s V ⟨some ⟨b,0,none⟩,2,2⟩ [e1,e2] :=
 L06 (o:=r1.val.cells.toList++(r2.val.cells.toList++[])) hb ⟨_,_,rfl,rfl,⟨r1,rfl,h1⟩,_,_,rfl,rfl,⟨r2,rfl,h2⟩,rfl⟩ rfl
theorem i0e{V:View}{a:BdV}{e:Eb}(ha:BdAt V a e)(hz:e.num.sz<=2^40):a00 Tryz.prog T0r #[a.val] V λv V'=>∃b:BdV,v=b.val/\BdAt V' b e.abs:=by
 refine s0p a V _ ((k06 ha hz).mono λv V1 l1 hv=>⟨_,hv,λh => ?_,λh => ?_⟩)
 . have h:e.sign<0:=by simpa using h
   exact(H0k (ha.le l1)).mono λv V2 _ ⟨b,hv,hb⟩=>⟨b,hv,b,rfl,by unfold Eb.abs; rw[if_pos h]; exact hb⟩
 . have h:¬e.sign<0:=by simpa using h
   exact⟨a,rfl,by unfold Eb.abs; rw[if_neg h]; exact ha.le l1⟩
theorem a0u(e:Eb):e.abs.num.sz=e.num.sz:=by
 unfold Eb.abs; split
 . exact o0w e
 . rfl
theorem E0j{V:View}:a00 Tryz.prog U0r #[.int .i64 0] V λv V'=>∃b:BdV,v=b.val/\BdAt V' b (Eb.fin 0):=by
 refine t0p 0 V _ ((F08 (by omega) (by omega)).mono λv V1 _ ⟨r,hv,hr⟩=>⟨r,hv,_,rfl,rfl,?_,.inl rfl⟩)
 rw[Rat.intCast_zero]at hr; exact hr
theorem J0q{e:Es}{S:Nat}(he:Es.szle e S)(hS:1<=S):Es.szle e.size S:=by
 have a:=a0u e.lo; have b:=a0u e.hi; have c:=he.1; have d:=he.2
 have p:∀way,(Eb.pick way [e.lo.abs,e.hi.abs]).num.sz<=S:=λway=>C0j (by simp) (by intro x hx; simp at hx; rcases hx with rfl|rfl<;>omega)
 unfold Es.size; split
 . exact⟨Nat.le_trans U0y hS,p 1⟩
 . exact⟨p (-1),p 1⟩
theorem Z0n{V:View}{s:SetV}{e:Es}(h:EsAt V s e){S:Nat}(he:Es.szle e S)(hS:S<=2^30):a00 Tryz.prog f0v #[s.val] V λv V'=>∃r:SetV,v=r.val/\EsAt V' r e.size:=by
 have a:=a0u e.lo; have b:=a0u e.hi; have c:=he.1; have d:=he.2
 have p:∀x∈[e.lo.abs,e.hi.abs],x.num.sz<=2^40:=by intro x hx; simp at hx; rcases hx with rfl|rfl<;>omega
 refine m0s s V _ ((i0e h.lo (by omega)).mono λv V1 l1 ⟨r1,hv,h1⟩=>⟨r1,hv,(i0e (h.hi.le l1) (by omega)).mono λv V2 l2 ⟨r2,hv,h2⟩=>⟨r2,hv,?_⟩⟩)
 refine(Y0n (h.le (View.le_trans l1 l2)) he hS).mono λv V3 l3 hv=>⟨_,hv,λhc => ?_,λhc => ?_⟩
 . refine E0j.mono λv V4 l4 ⟨r4,hv,h4⟩=>⟨r4,hv,λb1 V5 l5 _ hb1 => ?_⟩
   have L:=View.le_trans l3 (View.le_trans l4 l5)
   refine(o09 (D0e (h1.le (View.le_trans l2 L)) (h2.le L) hb1) (by simp) (by simp) p).mono λv V6 l6 ⟨r5,hv,h5⟩=>⟨r5,hv,_,rfl,?_⟩
   unfold Es.size; rw[if_pos hc]; exact⟨h4.le (View.le_trans l5 l6),h5⟩
 . intro b2 V7 l7 _ hb2
   have L:=View.le_trans l3 l7
   refine(J0g (D0e (h1.le (View.le_trans l2 L)) (h2.le L) hb2) (by simp) (by simp) p).mono λv V8 l8 ⟨r6,hv,h6⟩=>⟨r6,hv,λb3 V9 l9 _ hb3 => ?_⟩
   have L2:=View.le_trans L (View.le_trans l8 l9)
   refine(o09 (D0e (h1.le (View.le_trans l2 L2)) (h2.le L2) hb3) (by simp) (by simp) p).mono λv V10 l10 ⟨r7,hv,h7⟩=>⟨r7,hv,_,rfl,?_⟩
   unfold Es.size; rw[if_neg (by rw[hc]; decide)]; exact⟨h6.le (View.le_trans l9 l10),h7⟩
theorem L0b{e:Es}{S:Nat}(he:Es.szle e S)(hS:1<=S):Es.szle e.square (2*S+1):=by
 have z:=J0q he hS
 have a:=A0d e.size.lo e.size.lo; have b:=A0d e.size.hi e.size.hi
 have c:=z.1; have d:=z.2
 exact⟨by show(e.size.lo.mul e.size.lo).num.sz<=_; omega,by show(e.size.hi.mul e.size.hi).num.sz<=_; omega⟩
theorem b0d{V:View}{s:SetV}{e:Es}(h:EsAt V s e){S:Nat}(he:Es.szle e S)(h1S:1<=S)(hS:S<=2^30):a00 Tryz.prog O0o #[s.val] V λv V'=>∃r:SetV,v=r.val/\EsAt V' r e.square:=by
 have z:=J0q he h1S
 have c:=z.1; have d:=z.2
 refine Q0m s V _ ((Z0n h he hS).mono λv V1 l1 ⟨r1,hv,h1⟩=>⟨r1,hv,?_⟩)
 refine(g0e h1.lo h1.lo (by omega) (by omega)).mono λv V2 l2 ⟨r2,hv,h2⟩=>⟨r2,hv,?_⟩
 exact(g0e (h1.hi.le l2) (h1.hi.le l2) (by omega) (by omega)).mono λv V3 l3 ⟨r3,hv,h3⟩=>⟨r3,hv,_,rfl,h2.le l3,h3⟩
def Bk.norm(b:Bk):Sk:=(b.re.set.square.add b.im.set.square).span
theorem a0o{V:View}{b:Bk}(h:b.ok):a00 Tryz.prog T0u #[b.v.val] V λv _=>v=(Bk.norm b).v.val:=by
 have z1:=L0b (k08 h.re) (by omega); have z2:=L0b (k08 h.im) (by omega)
 refine n0s b.v V _ ((c0i h.re).mono λv V1 l1 ⟨r1,hv,h1⟩=>⟨r1,hv,?_⟩)
 refine(b0d h1 (k08 h.re) (by omega) (by omega)).mono λv V2 l2 ⟨r2,hv,h2⟩=>⟨r2,hv,?_⟩
 refine(c0i h.im).mono λv V3 l3 ⟨r3,hv,h3⟩=>⟨r3,hv,?_⟩
 refine(b0d h3 (k08 h.im) (by omega) (by omega)).mono λv V4 l4 ⟨r4,hv,h4⟩=>⟨r4,hv,?_⟩
 refine(t0h (h2.le (View.le_trans l3 l4)) h4 z1 z2 (by omega)).mono λv V5 l5 ⟨r5,hv,h5⟩=>⟨r5,hv,?_⟩
 exact(p09 h5 (Z0t z1 z2) (by omega)).mono λv V6 _ hv=>⟨_,hv,rfl⟩
theorem d0b{V:View}{s:Sk}(h:s.ok):a00 Tryz.prog p0e #[s.v.val] V λv V'=>∃a b:BdV,v = .tuple #[a.val,b.val]/\BqAt V' a s.set.square.lo/\BqAt V' b s.set.square.hi:=by
 rw[l0y (g0y _) (g0y _)]
 have a1:=c0b h.lo; have a2:=c0b h.hi
 have s1:=A0d (endE s.lo) (endE s.lo); have s2:=A0d (endE s.hi) (endE s.hi)
 have p:∀x∈[(endE s.lo).mul (endE s.lo),(endE s.hi).mul (endE s.hi)],x.num.sz<=2^38:=by intro x hx; simp at hx; rcases hx with rfl|rfl<;>omega
 have zq:=J0s h
 refine H0d s.v V _ ((C05 h.lo).mono λv V1 l1 ⟨r1,hv,h1⟩=>⟨r1,hv,(C05 h.lo).mono λv V2 l2 ⟨r2,hv,h2⟩=>⟨r2,hv,?_⟩⟩)
 refine(W0c (h1.le l2) h2 (by omega) (by omega)).mono λv V3 l3 ⟨r3,hv,h3⟩=>⟨r3,hv,?_⟩
 refine(C05 h.hi).mono λv V4 l4 ⟨r4,hv,h4⟩=>⟨r4,hv,(C05 h.hi).mono λv V5 l5 ⟨r5,hv,h5⟩=>⟨r5,hv,?_⟩⟩
 refine(W0c (h4.le l5) h5 (by omega) (by omega)).mono λv V6 l6 ⟨r6,hv,h6⟩=>⟨r6,hv,λb1 V7 l7 _ hb1 => ?_⟩
 have hq:=Y0y (h3.le (View.le_trans l4 (View.le_trans l5 (View.le_trans l6 l7)))) (h6.le l7) hb1
 refine(a0d hq (by simp) (by simp) p).mono λv V8 l8 ⟨r7,hv,h7⟩=>⟨r7,hv,?_⟩
 have lo0:((FloatKind.f64.format.order (m04 s.lo) 0==some .lt)||(FloatKind.f64.format.order (m04 s.lo) 0==some .eq))=decide (s.lo<=0):=leK h.lo H0n
 have hi0:((FloatKind.f64.format.order (m04 s.hi) 0==some .gt)||(FloatKind.f64.format.order (m04 s.hi) 0==some .eq))=decide (0<=s.hi):=geK h.hi H0n
 have gr:∀ {V9:View},View.le V8 V9->a00 Tryz.prog s0c #[(Sl.mk (some (Addr.mk b1 0 none)) 2 2).v] V9 λv V'=>∃b:BdV,v=b.val/\BqAt V' b (Eb.pick 1 [(endE s.lo).mul (endE s.lo),(endE s.hi).mul (endE s.hi)]) :=
  λl9=>j0a (hq.le (View.le_trans l8 l9)) (by simp) (by simp) p
 refine⟨λc1=>⟨λc2 => ?_,λc2 => ?_⟩,λc1 => ?_⟩
 . have z:s.set.zero=true:=by rw[zq]; have c1:=lo0▸c1; have c2:=hi0▸c2; rw[c1,c2]; rfl
   refine(j06 (by omega) (by omega)).mono λv V9 l9 ⟨r8,hv,h8⟩=>⟨r8,hv,?_⟩
   rw[Rat.intCast_zero]at h8
   refine(C04 h8).mono λv V10 l10 ⟨r9,hv,h9⟩=>⟨r9,hv,(gr (View.le_trans l9 l10)).mono λv V11 l11 ⟨r10,hv,h10⟩=>⟨r10,hv,_,_,rfl,?_,h10⟩⟩
   show BqAt V11 r9 (if s.set.zero=true then Eb.fin 0 else _)
   rw[if_pos z]; exact h9.le l11
 . have z:s.set.zero=false:=by rw[zq]; have c2:=hi0▸c2; rw[c2,Bool.and_false]
   refine(gr (View.le_refl _)).mono λv V12 l12 ⟨r11,hv,h11⟩=>⟨r11,hv,_,_,rfl,?_,h11⟩
   show BqAt V12 r7 (if s.set.zero=true then Eb.fin 0 else _)
   rw[if_neg (by rw[z]; decide)]; exact h7.le l12
 . have z:s.set.zero=false:=by rw[zq]; have c1:=lo0▸c1; rw[c1,Bool.false_and]
   refine(gr (View.le_refl _)).mono λv V13 l13 ⟨r12,hv,h12⟩=>⟨r12,hv,_,_,rfl,?_,h12⟩
   show BqAt V13 r7 (if s.set.zero=true then Eb.fin 0 else _)
   rw[if_neg (by rw[z]; decide)]; exact h7.le l13
theorem a0g{V:View}{b:Bk}(h:b.ok):a00 Tryz.prog z0i #[b.v.val] V λv _=>v=(Bk.norm b).v.val:=by
 have z:=L0b (k08 h.re) (by omega); have z':=L0b (k08 h.im) (by omega)
 have z1:=z.1; have z2:=z.2; have z3:=z'.1; have z4:=z'.2
 have s1:=w09 b.re.set.square.lo b.im.set.square.lo; have s2:=w09 b.re.set.square.hi b.im.set.square.hi
 refine E0h b.v V _ ((d0b h.re).mono λv V1 l1 ⟨r1,r2,hv,h1,h2⟩=>⟨r1,r2,hv,(d0b h.im).mono λv V2 l2 ⟨r3,r4,hv,h3,h4⟩=>⟨r3,r4,hv,?_⟩⟩)
 refine(j08 (h1.le l2) h3 (by omega) (by omega)).mono λv V3 l3 ⟨r5,hv,h5⟩=>⟨r5,hv,?_⟩
 refine(j08 (h2.le (View.le_trans l2 l3)) (h4.le l3) (by omega) (by omega)).mono λv V4 l4 ⟨r6,hv,h6⟩=>⟨r6,hv,?_⟩
 exact(l06 (h5.le l4) h6 (by omega) (by omega)).mono λv V5 _ hv=>⟨_,hv,rfl⟩
theorem K0q{r:RatV}(h:ratI r):(ratQ r).sz<=64:=by
 obtain⟨⟨a,b⟩,⟨c,d⟩,e,f⟩:=h
 have key:Rep (ratQ r) (if r.den<0 then -r.re else r.re) (if r.den<0 then -r.im else r.im) (if r.den=0 then 1 else r.den.natAbs):=by
  unfold ratQ
  split
  . rename_i h0
    have:¬r.den<0:=by omega
    rw[if_neg this,if_neg this]
    refine⟨by omega,?_,?_⟩<;>simp only[]<;>rw[Rat.div_def]<;>simp<;>grind
  . by_cases hn:r.den<0
    . rw[if_pos hn,if_pos hn]
      have hd:(r.den:Rat)≠0:=by
       intro e0
       have:=Rat.intCast_inj.1 (e0.trans Rat.intCast_zero.symm)
       omega
      have e:((r.den.natAbs:Nat):Rat) = -(r.den:Rat):=by
       have e1:((r.den.natAbs:Nat):Rat)=(((r.den.natAbs:Nat):Int):Rat):=rfl
       have e2:((r.den.natAbs:Nat):Int) = -r.den:=by omega
       rw[e1,e2,Rat.intCast_neg]
      refine⟨by omega,?_,?_⟩<;>simp only[e,Rat.intCast_neg]<;>grind
    . rw[if_neg hn,if_neg hn]
      have e:((r.den.natAbs:Nat):Rat)=(r.den:Rat):=by
       have e2:((r.den.natAbs:Nat):Int)=r.den:=by omega
       conv=>rhs; rw[<-e2]
       rfl
      exact⟨by omega,by simp only[e],by simp only[e]⟩
 refine key.sz ?_ ?_ ?_
 . exact j02 (by split<;>omega)
 . exact j02 (by split<;>omega)
 . exact j02 (by split<;>omega)
def ofS(q:Rat):Sk:=⟨D0f q,E0f q⟩
def ofB(z:Cq):Bk:=⟨ofS z.re,ofS z.im⟩
theorem m11(q:Rat):(ofS q).ok:=⟨d0q q,e0q q⟩
theorem U13(z:Cq):(ofB z).ok:=⟨m11 _,m11 _⟩
theorem F0j{V:View}{x y:NumV}{q:Rat}(hx:T00 V x ⟨q,0⟩)(hy:T00 V y ⟨q,0⟩)(hz:(⟨q,0⟩:Cq).sz<=2^28):a00 Tryz.prog W0g #[x.val,y.val] V λv _=>v = .tuple #[(ofS q).v.val,.int .i64 0]:=by
 refine n0f x y V _ ((J02 hx).mono λv V1 l1 hv=>⟨_,hv,λh=>absurd h (by simp),λ_ => ?_⟩)
 refine(J02 (hy.le l1)).mono λv V2 l2 hv=>⟨_,hv,λh=>absurd h (by simp),λ_ b1 V3 l3 _ hb1 => ?_⟩
 have L3:=View.le_trans l1 (View.le_trans l2 l3)
 have bx:BdAt V3 (BdV.mk 0 x) ⟨0,q⟩:=⟨rfl,hx.le L3,.inl rfl⟩
 have byy:BdAt V3 (BdV.mk 0 y) ⟨0,q⟩:=⟨rfl,hy.le L3,.inl rfl⟩
 have hs:∀e∈[(⟨0,q⟩:Eb),⟨0,q⟩],e.num.sz<=2^40:=by
  intro e he; simp at he; subst he; exact Nat.le_trans hz (by omega)
 have pk:∀way,Eb.pick way [(⟨0,q⟩:Eb),⟨0,q⟩]=⟨0,q⟩:=λway=>by
  show(if Eb.cmp ⟨0,q⟩ ⟨0,q⟩=way then(⟨0,q⟩:Eb)else⟨0,q⟩)=_
  split<;>rfl
 refine(J0g (D0e bx byy hb1) (by simp) (by simp) hs).mono λv V4 l4 ⟨r3,hv,h3⟩=>⟨r3,hv,λb2 V5 l5 _ hb2 => ?_⟩
 have L5:=View.le_trans l4 l5
 refine(o09 (D0e (bx.le L5) (byy.le L5) hb2) (by simp) (by simp) hs).mono λv V6 l6 ⟨r4,hv,h4⟩=>⟨r4,hv,?_⟩
 rw[pk]at h3 h4
 have hset:EsAt V6 (SetV.mk r3 r4) ⟨⟨0,q⟩,⟨0,q⟩⟩:=⟨h3.le (View.le_trans l5 l6),h4⟩
 refine(p09 hset (S:=2^28) ⟨hz,hz⟩ (by omega)).mono λv V7 _ hv=>⟨_,hv,?_⟩
 rfl
theorem C12{V:View}{x:NumV}{z:Cq}(b:BoxV)(hx:T00 V x z)(hz:z.sz<=2^27):a00 Tryz.prog x0z #[b.val,x.val] V λv _=>v=(ofB z).v.val:=by
 have s1:=e11 z; have s2:=f11 z
 refine y0x b x V _ ((m0j hx (by omega)).mono λv V1 l1 ⟨r1,hv,h1⟩=>⟨r1,hv,?_⟩)
 refine(m0j (hx.le l1) (by omega)).mono λv V2 l2 ⟨r2,hv,h2⟩=>⟨r2,hv,?_⟩
 refine(F0j (h1.le l2) h2 (by omega)).mono λv V3 l3 hv=>⟨_,_,hv,?_⟩
 have L3:=View.le_trans l1 (View.le_trans l2 l3)
 refine(n0j (hx.le L3) (by omega)).mono λv V4 l4 ⟨r5,hv,h5⟩=>⟨r5,hv,?_⟩
 refine(n0j (hx.le (View.le_trans L3 l4)) (by omega)).mono λv V5 l5 ⟨r6,hv,h6⟩=>⟨r6,hv,?_⟩
 exact(F0j (h5.le l5) h6 (by omega)).mono λv V6 _ hv=>⟨_,_,hv,rfl⟩
theorem b0g{V:View}{r:RatV}(h:ratI r):a00 Tryz.prog W0w #[r.val] V λv V'=>∃x:NumV,v=x.val/\QAt V' x (ratQ r):=by
 obtain⟨⟨a1,a2⟩,⟨b1,b2⟩,⟨c1,c2⟩⟩:=h
 refine K0v r V _ ⟨λhd => ?_,λhd => ?_⟩
 . have hd:r.den=0:=by simpa using hd
   refine(T0f a1 a2 b1 b2 (by omega) (by omega) (by omega)).mono λv V1 _ ⟨x,hv,hx⟩=>⟨x,0,hv,x,rfl,?_⟩
   have e:ratQ r=⟨((r.re:Int):Rat) / ((1:Int):Rat),((r.im:Int):Rat) / ((1:Int):Rat)⟩:=by
    unfold ratQ; rw[if_pos hd]
    exact Cq.ext' (by simp only[]; grind) (by simp only[]; grind)
   rw[e]; exact hx
 . have hd:r.den≠0:=by simpa using hd
   refine(T0f a1 a2 b1 b2 c1 c2 hd).mono λv V1 _ ⟨x,hv,hx⟩=>⟨x,0,hv,x,rfl,?_⟩
   have e:ratQ r=⟨((r.re:Int):Rat) / ((r.den:Int):Rat),((r.im:Int):Rat) / ((r.den:Int):Rat)⟩:=by
    unfold ratQ; rw[if_neg hd]
   rw[e]; exact hx
theorem L0q{V:View}{x:NumV}{z:Cq}(h:QAt V x z)(hz:z.sz<=2^40):a00 Tryz.prog e0x #[x.val] V λv V'=>∃r:NumV,v=r.val/\QAt V' r ⟨z.re,0⟩:=by
 have zA:=Cq.wA hz; have zB:=Cq.wB hz; have zD:=Cq.wD hz
 exact M0v x V _ ((B04 h.re (d02.zero V) h.under (f0t z.canon.rep) (by omega) (by rw[Int.natAbs_zero,w06]; omega) (by omega)).mono λv V' _ ⟨r,hv,hq⟩=>⟨r,hv,r,rfl,hq⟩)
theorem a0c{V:View}{x:NumV}{z:Cq}(h:QAt V x z)(hz:z.sz<=2^40):a00 Tryz.prog w0m #[x.val] V λv _=>v = .bool (decide (z.im=0)):=by
 have side:a00 Tryz.prog D0i #[x.val] V λv _=>v = .int .i64 (cmpR z.im 0) :=
  c0h x V _ ((g0a h hz).mono λv V1 _ ⟨r,hv,hr⟩=>⟨r,hv,(O05 hr).mono λv V2 _ hv=>⟨_,hv,rfl⟩⟩)
 refine A0k x V _ (side.mono λv V1 _ hv=>⟨_,hv,?_⟩)
 congr 1
 have e:cmpR z.im 0=0↔z.im=0:=by
  unfold cmpR
  by_cases c:z.im<0
  . rw[if_pos c]; exact⟨λh=>absurd h (by decide),λh=>by grind⟩
  . rw[if_neg c]
    by_cases d:z.im=0
    . rw[if_pos d]; exact⟨λ_=>d,λ_=>rfl⟩
    . rw[if_neg d]; exact⟨λh=>absurd h (by decide),λh=>absurd h d⟩
 by_cases c:z.im=0
 . rw[decide_eq_true c,e.2 c]; rfl
 . rw[decide_eq_false c]
   have:¬cmpR z.im 0=0:=λg=>c (e.1 g)
   simpa using this
theorem B0d{z:Cq}(h:z.im=0):z=(⟨0,z.re⟩:Eb).num:=Cq.ext' rfl h
theorem M0q{V:View}{x:NumV}{z:Cq}(hx:QAt V x z)(hz:z.sz<=2^27):a00 Tryz.prog Y0w #[x.val] V λv _=>v=(ofB z).v.val:=by
 have s1:=e11 z; have s2:=f11 z
 have z1:(⟨0,z.re⟩:Eb).num.sz<=2^30:=by show(⟨z.re,0⟩:Cq).sz<=_; omega
 have z2:(⟨0,z.im⟩:Eb).num.sz<=2^30:=by show(⟨z.im,0⟩:Cq).sz<=_; omega
 refine N0v x V _ ((L0q hx (by omega)).mono λv V1 l1 ⟨r1,hv,h1⟩=>⟨r1,hv,(C04 h1).mono λv V2 l2 ⟨b1,hv,hb1⟩=>⟨b1,hv,?_⟩⟩)
 refine(g0a (hx.le (View.le_trans l1 l2)) (by omega)).mono λv V3 l3 ⟨r3,hv,h3⟩=>⟨r3,hv,(C04 h3).mono λv V4 l4 ⟨b2,hv,hb2⟩=>⟨b2,hv,?_⟩⟩
 replace hb1:=hb1.le (View.le_trans l3 l4)
 refine(l06 hb1 hb1 z1 z1).mono λv V5 l5 hv=>⟨_,hv,?_⟩
 exact(l06 (hb2.le l5) (hb2.le l5) z2 z2).mono λv V6 _ hv=>⟨_,hv,rfl⟩
def arE(z w:Cq):Int:=if z.im=0/\w.im=0 then 0 else 1
def arL(z w:Cq):List Eb:=[⟨0,z.re⟩,⟨0,w.re⟩]
def arS(z w:Cq):Sk:=if z.im=0/\w.im=0 then Es.span ⟨Eb.pick (-1) (arL z w),Eb.pick 1 (arL z w)⟩else Sk.nil
theorem n11(z w:Cq):(arS z w).ok:=by
 unfold arS; split
 . exact g0b _
 . exact Sk.nil_ok
theorem q11{z w:Cq}{S:Nat}(hz:z.sz<=S)(hw:w.sz<=S)(h1:z.im=0)(h2:w.im=0):∀e∈arL z w,e.num.sz<=S:=by
 intro e he
 simp only[arL,List.mem_cons,List.not_mem_nil,or_false]at he
 rcases he with rfl|rfl
 . rw[<-B0d h1]; exact hz
 . rw[<-B0d h2]; exact hw
theorem N0q{V:View}{x y:NumV}{z w:Cq}(hx:T00 V x z)(hy:T00 V y w)(hz:z.sz<=2^27)(hw:w.sz<=2^27):a00 Tryz.prog W0g #[x.val,y.val] V λv _=>v = .tuple #[(arS z w).v.val,.int .i64 (arE z w)]:=by
 refine n0f x y V _ ((J02 hx).mono λv V1 l1 hv=>⟨_,hv,λh => ?_,λh => ?_⟩)
 . have h:¬z.im=0:=by simpa using h
   unfold arS arE; rw[if_neg (λg=>h g.1),if_neg (λg=>h g.1)]; rfl
 have h1:z.im=0:=by simpa using h
 refine(J02 (hy.le l1)).mono λv V2 l2 hv=>⟨_,hv,λh => ?_,λh b1 V3 l3 _ hb1 => ?_⟩
 . have h:¬w.im=0:=by simpa using h
   unfold arS arE; rw[if_neg (λg=>h g.2),if_neg (λg=>h g.2)]; rfl
 have h2:w.im=0:=by simpa using h
 have L3:=View.le_trans l1 (View.le_trans l2 l3)
 have bx:BdAt V3 (BdV.mk 0 x) ⟨0,z.re⟩:=⟨rfl,by rw[<-B0d h1]; exact hx.le L3,.inl rfl⟩
 have byy:BdAt V3 (BdV.mk 0 y) ⟨0,w.re⟩:=⟨rfl,by rw[<-B0d h2]; exact hy.le L3,.inl rfl⟩
 have hs:=q11 hz hw h1 h2
 have hs40:∀e∈arL z w,e.num.sz<=2^40:=λe he=>Nat.le_trans (hs e he) (by omega)
 refine(J0g (es:=arL z w) (D0e bx byy hb1) (by simp[arL]) (by simp[arL]) hs40).mono λv V4 l4 ⟨r3,hv,h3⟩=>⟨r3,hv,λb2 V5 l5 _ hb2 => ?_⟩
 have L5:=View.le_trans l4 l5
 refine(o09 (es:=arL z w) (D0e (bx.le L5) (byy.le L5) hb2) (by simp[arL]) (by simp[arL]) hs40).mono λv V6 l6 ⟨r4,hv,h4⟩=>⟨r4,hv,?_⟩
 have hset:EsAt V6 (SetV.mk r3 r4) ⟨Eb.pick (-1) (arL z w),Eb.pick 1 (arL z w)⟩:=⟨h3.le (View.le_trans l5 l6),h4⟩
 refine(p09 hset (S:=2^27) ⟨C0j (by simp[arL]) hs,C0j (by simp[arL]) hs⟩ (by omega)).mono λv V7 _ hv=>⟨_,hv,?_⟩
 unfold arS arE; rw[if_pos ⟨h1,h2⟩,if_pos ⟨h1,h2⟩]
theorem O0h{V:View}{x y:NumV}{z w:Cq}(hx:QAt V x z)(hy:QAt V y w)(hz:z.sz<=2^27)(hw:w.sz<=2^27):a00 Tryz.prog m0m #[x.val,y.val] V λv _=>v = .tuple #[(arS z w).v.val,.int .i64 (arE z w)]:=by
 refine B0k x y V _ ((a0c hx (by omega)).mono λv V1 l1 hv=>⟨_,hv,λh => ?_,λh => ?_⟩)
 . have h:¬z.im=0:=by simpa using h
   unfold arS arE; rw[if_neg (λg=>h g.1),if_neg (λg=>h g.1)]; rfl
 have h1:z.im=0:=by simpa using h
 refine(a0c (hy.le l1) (by omega)).mono λv V2 l2 hv=>⟨_,hv,λh => ?_,λh => ?_⟩
 . have h:¬w.im=0:=by simpa using h
   unfold arS arE; rw[if_neg (λg=>h g.2),if_neg (λg=>h g.2)]; rfl
 have h2:w.im=0:=by simpa using h
 have hx2:QAt V x ⟨z.re,0⟩:=by have:=hx; rw[B0d h1]at this; exact this
 have hy2:QAt V y ⟨w.re,0⟩:=by have:=hy; rw[B0d h2]at this; exact this
 have L2:=View.le_trans l1 l2
 have hs:=q11 hz hw h1 h2
 have hs38:∀e∈arL z w,e.num.sz<=2^38:=λe he=>Nat.le_trans (hs e he) (by omega)
 refine(C04 (hx2.le L2)).mono λv V3 l3 ⟨r3,hv,h3⟩=>⟨r3,hv,(C04 (hy2.le (View.le_trans L2 l3))).mono λv V4 l4 ⟨r4,hv,h4⟩=>⟨r4,hv,λb1 V5 l5 _ hb1 => ?_⟩⟩
 have hq:Y0s V5 ⟨some ⟨b1,0,none⟩,2,2⟩ (arL z w):=Y0y (h3.le (View.le_trans l4 l5)) (h4.le l5) hb1
 refine(a0d hq (by simp[arL]) (by simp[arL]) hs38).mono λv V6 l6 ⟨r5,hv,h5⟩=>⟨r5,hv,(j0a (hq.le l6) (by simp[arL]) (by simp[arL]) hs38).mono λv V7 l7 ⟨r6,hv,h6⟩=>⟨r6,hv,?_⟩⟩
 refine(l06 (h5.le l7) h6 (Nat.le_trans (C0j (by simp[arL]) hs) (by omega)) (Nat.le_trans (C0j (by simp[arL]) hs) (by omega))).mono λv V8 _ hv=>⟨_,hv,?_⟩
 unfold arS arE; rw[if_pos ⟨h1,h2⟩,if_pos ⟨h1,h2⟩]
theorem J0k{V:View}{x:NumV}{z:Cq}(h:QAt V x z):a00 Tryz.prog F0r #[x.val] V λv _=>v = .bool (decide (z=Cq.zero)):=by
 have a:=h.re.2.len_zero; have b:=h.im.2.len_zero
 have zA:=D0y (z:=z); have zB:=B_zero (z:=z)
 have key:z=Cq.zero↔x.re.mag.len=0/\x.im.mag.len=0:=by
  rw[a,b,Int.natAbs_eq_zero,Int.natAbs_eq_zero,zA,zB]
  exact⟨λe=>by rw[e]; exact⟨rfl,rfl⟩,λ⟨h1,h2⟩=>Cq.ext' h1 h2⟩
 refine p0p x V _ ⟨λhc => ?_,λhc => ?_⟩
 · have hc : x.re.mag.len = 0 := by have : (x.re.mag.len : Int) = 0 := by simpa using hc
                                    omega
   congr 1
   by_cases d:x.im.mag.len=0
   . rw[decide_eq_true (key.2 ⟨hc,d⟩),d]; rfl
   . rw[decide_eq_false (λe=>d (key.1 e).2)]; simpa using d
 · have hc : ¬ x.re.mag.len = 0 := by have : ¬ (x.re.mag.len : Int) = 0 := by simpa using hc
                                      omega
   rw[decide_eq_false (λe=>hc (key.1 e).1)]
theorem b0u(a:Int)(n:Nat):((a*(n:Int):Int):Rat)=(a:Rat)*(n:Rat):=by rw[Rat.intCast_mul]; rfl
theorem K0k{V:View}{x y:NumV}{z w:Cq}(hx:QAt V x z)(hy:QAt V y w)(hz:z.sz<=2^36)(hw:w.sz<=2^36) :
 a00 Tryz.prog U0u #[x.val,y.val] V λv V'=>∃(r:NumV) (e:Int),v = .tuple #[r.val,.int .i64 e]/\QAt V' r (z.div w)/\(w≠Cq.zero->e=0)/\(w=Cq.zero->e=3):=by
 have cz:=C0d w
 refine l0s x y V _ ((J0k hy).mono λv V1 l1 hv=>⟨_,hv,λhc => ?_,λhc => ?_⟩)
 . have hc:w=Cq.zero:=by simpa using hc
   refine(j06 (by omega) (by omega)).mono λv V2 _ ⟨r,hv,hr⟩=>⟨r,hv,_,_,rfl,?_,λh=>absurd hc h,λ_=>rfl⟩
   have e:z.div w=⟨((0:Int):Rat),0⟩:=by
    rw[hc,Rat.intCast_zero]
    refine Cq.ext' ?_ ?_
    . show(z.re*0+z.im*0) / (0*0+0*0)=0
      have:z.re*0+z.im*0=(0:Rat):=by grind
      rw[this,Rat.div_def]; exact Rat.zero_mul _
    . show(z.im*0-z.re*0) / (0*0+0*0)=0
      have:z.im*0-z.re*0=(0:Rat):=by grind
      rw[this,Rat.div_def]; exact Rat.zero_mul _
   rw[e]; exact hr
 have hc:w≠Cq.zero:=by simpa using hc
 replace hx:=hx.le l1; replace hy:=hy.le l1
 have norm:a00 Tryz.prog G0r #[y.val] V1 λv V'=>∃r:NumV,v=r.val/\QAt V' r (w*w.conj) :=
  q0p y V1 _ ((d0e hy).mono λv V2 l2 ⟨r,hv,hr⟩=>⟨r,hv,(K0b (hy.le l2) hr (by omega) (by omega)).mono λv V3 _ ⟨q,hv,hq⟩=>⟨q,hv,q,rfl,hq⟩⟩)
 refine norm.mono λv V3 l3 ⟨n,hv,hn⟩=>⟨n,hv,(d0e (hy.le l3)).mono λv V4 l4 ⟨c,hv,hcj⟩=>⟨c,hv,?_⟩⟩
 refine(K0b (hx.le (View.le_trans l3 l4)) hcj (by omega) (by omega)).mono λv V5 l5 ⟨t,hv,ht⟩=>⟨t,hv,?_⟩
 replace hn:=hn.le (View.le_trans l4 l5)
 have ns:=Z03 w w.conj
 have ts:=Z03 z w.conj
 have n40:(w*w.conj).sz<=2^40:=by omega
 have t40:(z*w.conj).sz<=2^40:=by omega
 have nA:=Cq.wA n40; have nD:=Cq.wD n40; have tA:=Cq.wA t40; have tB:=Cq.wB t40; have tD:=Cq.wD t40
 have hD:=(w*w.conj).D_pos
 refine(o02 ht.re (d02.ofNat hn.under) (by omega) (by rw[Int.natAbs_natCast]; omega)).mono λv V6 l6 ⟨r6,hv,h6⟩=>⟨r6,hv,?_⟩
 refine(o02 (ht.im.le l6) (d02.ofNat (hn.under.le l6)) (by omega) (by rw[Int.natAbs_natCast]; omega)).mono λv V7 l7 ⟨r7,hv,h7⟩=>⟨r7,hv,?_⟩
 have L:=View.le_trans l6 l7
 refine(P06 (ht.under.le L) (hn.re.2.le L) (by omega) (by omega)).mono λv V8 l8 ⟨r8,hv,h8⟩=>⟨r8,hv,?_⟩
 have p1:=z08 (z*w.conj).D (w*w.conj).A.natAbs
 have q1:=Y03 tA (b:=((w*w.conj).D:Int)) (by rw[Int.natAbs_natCast]; exact nD)
 have q2:=Y03 tB (b:=((w*w.conj).D:Int)) (by rw[Int.natAbs_natCast]; exact nD)
 have nre:(w*w.conj).re=w.norm:=by show w.re*w.re-w.im * -w.im=w.re*w.re+w.im*w.im; grind
 have npos:0<w.norm:=by
  have h1:0<=w.re*w.re:=L0c _
  have h2:0<=w.im*w.im:=L0c _
  refine Rat.not_le.1 λg=>hc ?_
  have g:w.re*w.re+w.im*w.im<=0:=g
  have e1:w.re*w.re=0:=by grind
  have e2:w.im*w.im=0:=by grind
  exact Cq.ext' (by rcases Rat.mul_eq_zero.1 e1 with h|h<;>exact h) (by rcases Rat.mul_eq_zero.1 e2 with h|h<;>exact h)
 have nrep:=(w*w.conj).canon.rep
 have hA:0<(w*w.conj).A:=by
  refine Int.not_le.1 λg => ?_
  have e:=nrep.re
  rw[nre]at e
  have:((w*w.conj).A:Rat) / ((w*w.conj).D:Rat)<=0:=by
   rw[Rat.div_def]
   have dp : (0 : Rat) < ((w * w.conj).D : Rat) := by have : 0 < (w * w.conj).D := by omega
                                                      exact_mod_cast this
   have ip:(0:Rat)<=((w*w.conj).D:Rat)⁻¹:=Rat.le_of_lt (Rat.inv_pos.2 dp)
   have gq:((w*w.conj).A:Rat)<=0:=by exact_mod_cast g
   have:=Rat.mul_le_mul_of_nonneg_right gq ip
   rw[Rat.zero_mul]at this; exact this
  grind
 have R:Rep (z.div w) ((z*w.conj).A*((w*w.conj).D:Int)) ((z*w.conj).B*((w*w.conj).D:Int)) ((z*w.conj).D*(w*w.conj).A.natAbs):=by
  have trep:=(z*w.conj).canon.rep
  have tre:(z*w.conj).re=z.re*w.re+z.im*w.im:=by show z.re*w.re-z.im * -w.im=_; grind
  have tim:(z*w.conj).im=z.im*w.re-z.re*w.im:=by show z.re * -w.im+z.im*w.re=_; grind
  have e1:=trep.re; have e2:=trep.im; have e3:=nrep.re
  rw[tre]at e1; rw[tim]at e2; rw[nre]at e3
  have dn:((z*w.conj).D:Rat)≠0:=b04 (z*w.conj).D_pos
  have dm:((w*w.conj).D:Rat)≠0:=b04 hD
  have an:(((w*w.conj).A.natAbs:Nat):Rat)=((w*w.conj).A:Rat):=by
   have:(((w*w.conj).A.natAbs:Nat):Int)=(w*w.conj).A:=by omega
   exact congrArg (λx:Int=>(x:Rat)) this
  have am:((w*w.conj).A:Rat)≠0:=by
   intro g
   have:(w*w.conj).A=0:=by exact_mod_cast g
   omega
  refine⟨?_,?_,?_⟩
  . exact Nat.pos_iff_ne_zero.1 (Nat.mul_pos (by have:=(z*w.conj).D_pos; omega) (by omega))
  . show(z.re*w.re+z.im*w.im) / w.norm=_
    rw[e1,e3,b0u (z*w.conj).A,Rat.natCast_mul,an]; grind
  . show(z.im*w.re-z.re*w.im) / w.norm=_
    rw[e2,e3,b0u (z*w.conj).B,Rat.natCast_mul,an]; grind
 refine(B04 (h6.le (View.le_trans l7 l8)) (h7.le l8) h8 R (by omega) (by omega) (by omega)).mono λv V9 _ ⟨r,hv,hr⟩=>⟨r,hv,_,_,rfl,hr,λ_=>rfl,λh=>absurd h hc⟩
theorem O0q{q:Rat}:cmpR q 0=0↔q=0:=by
 unfold cmpR
 by_cases c:q<0
 . rw[if_pos c]; exact⟨λh=>absurd h (by decide),λh=>by grind⟩
 . rw[if_neg c]
   by_cases d:q=0
   . rw[if_pos d]; exact⟨λ_=>d,λ_=>rfl⟩
   . rw[if_neg d]; exact⟨λh=>absurd h (by decide),λh=>absurd h d⟩
theorem Z0y{V:View}{a b c:NumV}{x y z:Cq}{S:Nat}(ha:T00 V a x)(hb:T00 V b y)(hc:T00 V c z)(sx:x.sz<=S)(sy:y.sz<=S)(sz:z.sz<=S)(hS:S<=2^30) :
 a00 Tryz.prog J0r #[a.val,b.val,c.val] V λv V'=>∃r:NumV,v=r.val/\T00 V' r (g0q x y z):=by
 have s1:=N09 x y; have s2:=N09 z y
 refine L0p a b c V _ ((G08 ha hb (by omega) (by omega)).mono λv V1 l1 ⟨r1,hv,h1⟩=>⟨r1,hv,?_⟩)
 refine(G08 (hc.le l1) (hb.le l1) (by omega) (by omega)).mono λv V2 l2 ⟨r2,hv,h2⟩=>⟨r2,hv,?_⟩
 refine(S0c (h1.le l2) h2 (by omega) (by omega)).mono λv V3 l3 ⟨r3,e,hv,hz,hn⟩=>⟨r3,e,hv,r3,rfl,?_⟩
 by_cases g:z-y=Cq.zero
 . have e1:g0q x y z=Cq.zero:=by
     unfold g0q; rw[g]
     refine Cq.ext' ?_ ?_<;>simp only[Cq.div,Cq.norm,Cq.zero,Rat.mul_zero,Rat.add_zero,Rat.div_def,Rat.inv_zero]
   rw[e1]; exact(hz g).2
 . exact(hn g).2
theorem P0q{V:View}{a b c:NumV}{x y z:Cq}{S:Nat}(ha:T00 V a x)(hb:T00 V b y)(hc:T00 V c z)(sx:x.sz<=S)(sy:y.sz<=S)(sz:z.sz<=S)(hS:S<=2^34) :
 a00 Tryz.prog a0k #[a.val,b.val,c.val] V λv V'=>∃r:NumV,v=r.val/\T00 V' r (J0n x y z):=by
 have s1:=N09 y x; have s2:=Z03 z (y-x)
 refine S0i a b c V _ ((G08 hb ha (by omega) (by omega)).mono λv V1 l1 ⟨r1,hv,h1⟩=>⟨r1,hv,?_⟩)
 refine(A04 (hc.le l1) h1 (by omega) (by omega)).mono λv V2 l2 ⟨r2,hv,h2⟩=>⟨r2,hv,?_⟩
 exact(g06 (ha.le (View.le_trans l1 l2)) h2 (by omega) (by omega)).mono λv V3 l3 ⟨r3,hv,h3⟩=>⟨r3,hv,r3,rfl,h3⟩
theorem b0o{V:View}{s:Sl}{l:List Tk}(h:A0a V s l){p:Option Addr}(hp:V.load p=some s.v){t:Nat}{k:Tk}(hk:l[t]?=some k) :
 a00 Tryz.prog O0b #[.int .i64 (t:Int),.pointer p] V λv V'=>∃r:NumV,v = .tuple #[r.val,.bool (decide (k.place.im=0))]/\T00 V' r k.time:=by
 obtain⟨g,y,hy,_,hs,⟨h1,g1⟩,h2,g2⟩:=F0f h (t:=(t:Int)) (by omega) (k:=k) (by rw[Int.toNat_natCast]; exact hk)
 refine w0g (t:Int) p V _ ⟨s,hp,g,hs,y.time,h1,g1,s,hp,g,hs,y.place,h2,g2,?_⟩
 exact(J02 hy.place).mono λv V1 l1 hv=>⟨_,hv,_,rfl,hy.time.le l1⟩
theorem L0k{V:View}{s:Sl}{l:List Tk}(h:A0a V s l){S:Nat}(hz:∀k∈l,k.szle S)(hS:S<=2^30){p:Option Addr}(hp:V.load p=some s.v) :
 a00 Tryz.prog y0h #[.int .i64 (s.len:Int),(Fn1.mk p).val O0b] V λv _=>∃r:Int,v = .int .i64 r/\r=C0g l:=by
 have hl:s.len=l.length:=h.len
 refine x07 (s.len:Int) ⟨p⟩ V _ (λ_ _ _=>1<=l.length/\l.length<=4096)
  (λ_ x V'=>∃t:Nat,x.t16=t/\t<=l.length/\(∀k,I0h l t=some k->T00 V' x.o5 k.time/\k.time.im=0)/\ascF none l=ascF ((I0h l t).map λk=>k.time.re) (l.drop t)) (λ_ x _=>l.length-x.t16.toNat) ?_
 rw[hl]
 refine⟨⟨λh0=>⟨_,rfl,?_⟩,λh0=>⟨λh1=>⟨_,rfl,?_⟩,λh1 => ?_⟩⟩,?_⟩
 . unfold C0g; rw[if_pos (.inl (by simpa using h0))]
 . unfold C0g; rw[if_pos (.inr (by simp at h1; omega))]
 . have h0:l.length≠0:=by simpa using h0
   exact⟨by omega,by simp at h1; omega⟩
 rintro⟨u⟩ V1 l1 ⟨hn1,hn2⟩
 refine⟨⟨0,rfl,by omega,λk hk=>by simp[I0h]at hk,rfl⟩,?_⟩
 rw[o0y hn1 hn2]
 rintro⟨t16,o5⟩ V2 l2 ⟨t,et,ht,ho,hE⟩
 dsimp only at et ho ⊢
 subst et
 have L2:=View.le_trans l1 l2
 refine⟨λhlt => ?_,λhge=>⟨_,rfl,?_⟩⟩
 . have hk:t<l.length:=by simp at hlt; omega
   have ek:l[t]?=some l[t]:=List.getElem?_eq_getElem hk
   have hmem:l[t]∈l:=List.getElem_mem hk
   obtain⟨zt,zp⟩:=hz _ hmem
   rw[M0s ek]at hE
   generalize hkk:l[t]=k at *
   refine(b0o (h.le L2) (Q02 L2 hp) ek).mono λv V3 l3 ⟨r1,hv,h1⟩=>⟨r1,_,hv,λc=>⟨_,rfl,?_⟩,λc => ?_⟩
   . have c:¬k.place.im=0:=by simpa using c
     rw[hE]; unfold ascF; rw[if_pos (by unfold Tk.real; simp[c])]
   have c:k.place.im=0:=by simpa using c
   refine(J02 h1).mono λv V4 l4 hv=>⟨_,hv,λd=>⟨_,rfl,?_⟩,λd => ?_⟩
   . have d:¬k.time.im=0:=by simpa using d
     rw[hE]; unfold ascF; rw[if_pos (by unfold Tk.real; simp[d])]
   have d:k.time.im=0:=by simpa using d
   have hr:¬k.real=false:=by unfold Tk.real; simp[c,d]
   have step:∀V',View.le V4 V'->(∀q,I0h l t=some q->¬k.time.re<=q.time.re)->(∃t':Nat,i64.wrap ((t:Int)+1)=t'/\t'<=l.length/\(∀k,I0h l t'=some k->T00 V' r1 k.time/\k.time.im=0)/\ascF none l=ascF ((I0h l t').map λk=>k.time.re) (l.drop t'))/\l.length-(i64.wrap ((t:Int)+1)).toNat<l.length-(t:Int).toNat:=by
    intro V' l' hq
    rw[i64w (by omega) (by omega)]
    refine⟨⟨t+1,by omega,by omega,?_,?_⟩,by omega⟩
    . intro k' hk'
      rw[C0l,ek]at hk'
      obtain rfl:=Option.some.inj hk'
      exact⟨h1.le (View.le_trans l4 l'),d⟩
    . rw[hE,C0l,ek]
      conv=>lhs; unfold ascF
      rw[if_neg hr]
      cases hpa:I0h l t with
      | none=>rfl
      | some q =>
        simp only[Option.map_some]
        rw[if_neg (hq q hpa)]
   refine⟨λc0 => ?_,λc0=>step V4 (View.le_refl _) λq hq => ?_⟩
   . have hpos:0<t:=by simp at c0; omega
     have ep:l[t-1]?=some l[t-1]:=List.getElem?_eq_getElem (by omega)
     have hpa:I0h l t=some l[t-1]:=by unfold I0h; rw[if_neg (by omega),ep]
     obtain⟨ho1,ho2⟩:=ho _ hpa
     have zq:=(hz _ (List.getElem_mem (show t-1<l.length by omega))).1
     generalize l[t-1]=q at *
     refine(H08 (h1.le l4) (ho1.le (View.le_trans l3 l4)) (by omega) (by omega)).mono λv V5 l5 hv=>⟨_,hv,λe=>⟨_,rfl,?_⟩,λe=>step V5 l5 λq' hq' => ?_⟩
     . rw[K0n d ho2]at e
       have e:k.time.re<=q.time.re:=by
        rcases Z0h k.time.re q.time.re with⟨g,_⟩|⟨g,_⟩|⟨_,g⟩
        . grind
        . grind
        . rw[g]at e; simp at e
       rw[hE,hpa]
       conv=>rhs; unfold ascF
       rw[if_neg hr]
       simp only[Option.map_some]
       rw[if_pos e]
     . rw[hpa]at hq'
       obtain rfl:=Option.some.inj hq'
       rw[K0n d ho2]at e
       rcases Z0h k.time.re q.time.re with⟨_,g⟩|⟨_,g⟩|⟨g,_⟩
       . rw[g]at e; simp at e
       . rw[g]at e; simp at e
       . grind
   . have:t=0:=by simp at c0; omega
     subst this
     simp[I0h]at hq
 . have e:t=l.length:=by simp at hge; omega
   subst e
   rw[hE,List.drop_length]; rfl
theorem Q0q{V:View}{s:Sl}{l:List Tk}(h:A0a V s l){S:Nat}(hz:∀k∈l,k.szle S)(hS:S<=2^30) :
 a00 Tryz.prog Y0j #[s.v] V λv _=>∃r:Int,v = .int .i64 r/\r=C0g l:=by
 refine T0i s V _ λb1 V1 l1 hb1 => ?_
 have hld:V1.load (some (Addr.mk b1 0 none))=some s.v:=by simp[View.load,hb1]
 exact⟨s,hld,(L0k (h.le l1) hz hS hld).mono λv V2 l2 ⟨r,hv,hr⟩=>⟨r,hv,r,rfl,hr⟩⟩
theorem S0q(z w:Cq) : -1<=z.cmp w/\z.cmp w<=1:=by
 unfold Cq.cmp
 split
 . rcases Z0h z.re w.re with⟨_,g⟩|⟨_,g⟩|⟨_,g⟩<;>rw[g]<;>decide
 . rcases Z0h z.im w.im with⟨_,g⟩|⟨_,g⟩|⟨_,g⟩<;>rw[g]<;>decide
theorem a0z{a b:Int}(ha : -1<=a/\a<=1)(hb : -1<=b/\b<=1):i64.wrap (a*b)=a*b:=by
 have h1:a = -1\/a=0\/a=1:=by omega
 have h2:b = -1\/b=0\/b=1:=by omega
 rcases h1 with rfl|rfl|rfl<;>rcases h2 with rfl|rfl|rfl<;>decide
theorem s0w{V:View}{s:Sl}{l:List Tk}(h:A0a V s l)(hn:1<=l.length)(hn2:l.length<=2^40){x:NumV}{p:Cq}(hx:T00 V x p){S:Nat}(hz:∀k∈l,k.szle S)(zp:p.sz<=S)(hS:S<=2^28) :
 a00 Tryz.prog K0o #[s.v,x.val] V λv V'=>∃(r:NumV) (b:Bool),v = .tuple #[r.val,.bool b]/\b=(f0a p l).isSome/\T00 V' r ((f0a p l).getD Cq.zero):=by
 have hl:s.len=l.length:=h.len
 have ek:l[0]?=some l[0]:=List.getElem?_eq_getElem (by omega)
 obtain⟨g,y,hy,_,hs,⟨h1,g1⟩,h2,g2⟩:=F0f h (t:=0) (by omega) (k:=l[0]) ek
 obtain⟨z1,z2⟩:=hz _ (List.getElem_mem (show 0<l.length by omega))
 have e0:f0a p l=if l[0].place=p then some l[0].time else e0j p l[0] (l.drop 1):=by
  rw[show f0a p l=f0a p (l.drop 0)from rfl,M0s ek]; rfl
 refine j0n s x V _ (λ_ z _=>∃(i:Nat) (a:Tk),z.t6=i/\1<=i/\i<=l.length/\l[i-1]?=some a/\f0a p l=e0j p a (l.drop i)) (λ_ z _=>l.length-z.t6.toNat) ⟨g,hs,y.place,h2,g2,?_⟩
 refine(I0f hy.place hx (by omega) (by omega)).mono λv V1 l1 hv=>⟨_,hv,λc => ?_,λc=>⟨?_,?_⟩⟩
 . have c:l[0].place=p:=by simpa using c
   rw[e0,if_pos c]
   exact⟨g,hs,y.time,X06 l1 h1,g1,_,_,rfl,rfl,hy.time.le l1⟩
 . have c:¬l[0].place=p:=by simpa using c
   exact⟨1,l[0],rfl,by omega,by omega,ek,by rw[e0,if_neg c]⟩
 rintro⟨t6,o4⟩ V2 l2 ⟨i,a,ei,i1,i2,ea,hE⟩
 dsimp only at ei ⊢
 subst ei
 have L2:=View.le_trans l1 l2
 rw[hl]
 refine⟨λhlt => ?_,λhge => ?_⟩
 . have hk:i<l.length:=by simp at hlt; omega
   rw[i64w (n:=(i:Int)-1) (by omega) (by omega),i64w (n:=(i:Int)+1) (by omega) (by omega)]
   have eb:l[i]?=some l[i]:=List.getElem?_eq_getElem hk
   obtain⟨za1,za2⟩:=hz a (List.mem_of_getElem? ea)
   obtain⟨zb1,zb2⟩:=hz _ (List.getElem_mem hk)
   rw[M0s eb]at hE
   obtain⟨ga,ya,hya,hha,hsa,_⟩:=F0f (h.le L2) (t:=(i:Int)-1) (by omega) (k:=a) (by rw[show((i:Int)-1).toNat=i-1 by omega]; exact ea)
   obtain⟨gb,yb,hyb,hhb,hsb,_⟩:=F0f (h.le L2) (t:=(i:Int)) (by omega) (k:=l[i]) (by rw[Int.toNat_natCast]; exact eb)
   rw[hl]at ga gb
   generalize l[i]=b at *
   have step:e0j p b (l.drop (i+1))=f0a p l->(∃(j:Nat) (a:Tk),((i:Int)+1)=j/\1<=j/\j<=l.length/\l[j-1]?=some a/\f0a p l=e0j p a (l.drop j))/\l.length-((i:Int)+1).toNat<l.length-(i:Int).toNat :=
    λhe=>⟨⟨i+1,b,by omega,by omega,by omega,by rw[Nat.add_sub_cancel]; exact eb,he.symm⟩,by omega⟩
   have eF:f0a p l=if 0<(a.place.cmp p)*(b.place.cmp p)\/a.place=b.place then e0j p b (l.drop (i+1))else some (J0n a.time b.time (g0q p a.place b.place)):=hE
   have hxx:=hx.le L2
   refine⟨ga,ya,hha,hsa,gb,yb,hhb,hsb,(H08 hya.place hxx (by omega) (by omega)).mono λv V3 l3 hv=>⟨_,hv,?_⟩⟩
   refine(H08 (hyb.place.le l3) (hxx.le l3) (by omega) (by omega)).mono λv V4 l4 hv=>⟨_,hv,?_⟩
   rw[a0z (S0q _ _) (S0q _ _)]
   have L4:=View.le_trans l3 l4
   refine⟨λc=>step ?_,λc=>(I0f (hya.place.le L4) (hyb.place.le L4) (by omega) (by omega)).mono λv V5 l5 hv=>⟨_,hv,λd=>step ?_,λd => ?_⟩⟩
   . rw[eF,if_pos (.inl (by simpa using c))]
   . rw[eF,if_pos (.inr (by simpa using d))]
   have c:¬0<(a.place.cmp p)*(b.place.cmp p):=by
    have:=of_decide_eq_false c
    exact this
   have d:¬a.place=b.place:=by simpa using d
   rw [if_neg (by rintro (g | g)
                  . exact c g
                  . exact d g)]at eF
   have L5:=View.le_trans L4 l5
   have s1:=N09 p a.place; have s2:=N09 b.place a.place
   have s3:=I0l (z:=p-a.place) (w:=b.place-a.place) (S:=2*S+2) (by omega) (by omega)
   refine(Z0y (hxx.le L5) (hya.place.le L5) (hyb.place.le L5) zp za2 zb2 (by omega)).mono λv V6 l6 ⟨r5,hv,h5⟩=>⟨r5,hv,?_⟩
   refine(P0q (hya.time.le (View.le_trans L5 l6)) (hyb.time.le (View.le_trans L5 l6)) h5 (S:=8*S+16) (by omega) (by omega) (by show((p-a.place).div (b.place-a.place)).sz<=_; omega) (by omega)).mono λv V7 l7 ⟨r6,hv,h6⟩=>⟨r6,hv,?_⟩
   rw[eF]
   exact⟨_,_,rfl,rfl,h6⟩
 . have e:i=l.length:=by simp at hge; omega
   subst e
   rw[List.drop_length]at hE
   rw[hE]
   exact⟨_,_,rfl,rfl,T00.zero V2⟩
theorem b0z{V:View}{s:Sl}{l:List Tk}(h:A0a V s l){x:NumV}{p:Cq}(hx:T00 V x p){S:Nat}(hz:∀k∈l,k.szle S)(zp:p.sz<=S)(hS:S<=2^28) :
 a00 Tryz.prog w0r #[s.v,x.val] V λv V'=>∃r:NumV,v = .tuple #[r.val,.int .i64 (j0q p l)]/\T00 V' r (k0q p l):=by
 have nil:∀(e:Int) (V':View),j0q p l=e->k0q p l=Cq.zero->∃r:NumV,Value.tuple #[zN.val,.int .i64 e]=Value.tuple #[r.val,.int .i64 (j0q p l)]/\T00 V' r (k0q p l):=λe V' he h0=>by
  rw[he,h0]; exact⟨_,rfl,T00.zero V'⟩
 refine M0p s x V _ ((Q0q h hz (by omega)).mono λv V1 l1 ⟨r1,hv,e1⟩=>⟨r1,hv,λc => ?_,λc => ?_⟩)
 . have c:C0g l≠0:=by rw[<-e1]; simpa using c
   exact nil _ V1 (by unfold j0q; rw[if_neg c,e1]) (by unfold k0q; rw[if_neg (by rintro⟨g,_⟩; exact c g)])
 have c:C0g l=0:=by rw[<-e1]; simpa using c
 obtain⟨n1,n2,asc⟩:=n0y c
 refine(J02 (hx.le l1)).mono λv V2 l2 hv=>⟨_,hv,λd => ?_,λd => ?_⟩
 . have d:¬p.im=0:=by simpa using d
   exact nil _ V2 (by unfold j0q; rw[if_pos c,if_neg d]) (by unfold k0q; rw[if_neg (by rintro⟨_,g⟩; exact d g)])
 have d:p.im=0:=by simpa using d
 have eE:j0q p l=if(f0a p l).isSome=true then 0 else 5:=by unfold j0q; rw[if_pos c,if_pos d]
 have eV:k0q p l=(f0a p l).getD Cq.zero:=by unfold k0q; rw[if_pos ⟨c,d⟩]
 have L2:=View.le_trans l1 l2
 refine(s0w (h.le L2) n1 (by omega) (hx.le L2) hz zp hS).mono λv V3 l3 ⟨r3,b,hv,hb,h3⟩=>⟨r3,b,hv,λf => ?_,λf => ?_⟩
 . have f:b=false:=by simpa using f
   rw[f]at hb
   refine nil 5 V3 (by rw[eE,<-hb]; rfl) ?_
   rw[eV]
   cases hq:f0a p l with
   | none=>rfl
   | some w=>rw[hq]at hb; simp at hb
 . have f:b=true:=by simpa using f
   rw[f]at hb
   rw[eE,eV,<-hb]
   exact⟨r3,rfl,h3⟩
def ms0:List Mk:=[⟨0,0,P3.zero⟩,⟨1,0,⟨intQ 2,Cq.zero,Cq.zero⟩⟩,⟨0,1,⟨intQ 1,intQ 3,Cq.zero⟩⟩]
def ts0:List Tk:=[⟨Cq.zero,Cq.zero⟩,⟨intQ 10,intQ 5⟩]
theorem Z0s:fitE ms0=0:=by decide +kernel
theorem F10:(if(fitF ms0).real=true then dotP (fitF ms0).u (fitF ms0).v else Cq.zero)=intQ 2:=by decide +kernel
theorem G10:(fitF ms0).real=true:=by decide +kernel
theorem H10:j0q (intQ 3) ts0=0:=by decide +kernel
theorem W13:k0q (intQ 3) ts0=intQ 6:=by decide +kernel
theorem o14:((cqS (intQ 2)).toList==(ByteArray.mk #[50]).toList)=true:=by decide +kernel
theorem p14:((cqS (intQ 6)).toList==(ByteArray.mk #[54]).toList)=true:=by decide +kernel
theorem P0l{V:View}{n:Int}(h0 : -9223372036854775808<=n)(h1:n<=9223372036854775807) :
 a00 Tryz.prog E0o #[.int .i64 n] V λv V'=>∃r:NumV,v=r.val/\T00 V' r (intQ n):=F08 h0 h1
theorem D12{V:View}:a00 Tryz.prog F0o #[.int .i64 4,.int .i64 2] V λv _=>v = .tuple #[.int .i64 (-2),.int .i64 0]:=by
 have h1:a00 Tryz.prog l0m #[.int .i64 4] V λv _=>v = .bool true :=
  C0k 4 V _ ⟨λ_=>⟨λ_=>rfl,λh=>absurd h (by decide)⟩,λh=>absurd h (by decide)⟩
 refine l0n 4 2 V _ (h1.mono λv V1 _ hv=>⟨_,hv,λh=>absurd h (by decide),λ_=>⟨λh=>absurd h (by decide),λ_=>⟨λh=>absurd h (by decide),λ_ => ?_⟩⟩⟩)
 exact(k0n 4 2 V1 (λv _=>v = .int .i64 (-2)) ⟨λh=>absurd h (by decide),λ_=>rfl⟩).mono λv V2 _ hv=>⟨_,hv,rfl⟩
theorem M0b{V:View}:a00 Tryz.prog n0c #[] V λv _=>v = .bool true:=by
 refine g0c V _ ((P0l (by omega) (by omega)).mono λv V1 l1 ⟨r1,hv,h1⟩=>⟨r1,hv,?_⟩)
 refine(P0l (by omega) (by omega)).mono λv V2 l2 ⟨r2,hv,h2⟩=>⟨r2,hv,?_⟩
 refine(P0l (by omega) (by omega)).mono λv V3 l3 ⟨r3,hv,h3⟩=>⟨r3,hv,λb1 V4 l4 _ hb1 => ?_⟩
 have hz4:T00 V4 zN Cq.zero:=T00.zero V4
 have hM:s0j V4 (Sl.mk (some (Addr.mk b1 0 none)) 3 3) ms0:=by
  refine k00.of_block (V:=V4) (sz:=17) (P:=k0w) (zs:=ms0) (o:=(p0g.mk 0 0 ⟨zN,zN,zN⟩).val.cells.toList++((p0g.mk 1 0 ⟨r1,zN,zN⟩).val.cells.toList++(p0g.mk 0 1 ⟨r2,r3,zN⟩).val.cells.toList)) (o':=[]) (b:=b1) (λ_=>by rw[List.append_nil]; exact hb1) ?_ rfl (Nat.le_refl _) (λ_=>rfl)
  exact⟨_,_,rfl,rfl,⟨_,rfl,rfl,rfl,hz4,hz4,hz4⟩,_,_,rfl,rfl,⟨_,rfl,rfl,rfl,h1.le (View.le_trans l2 (View.le_trans l3 l4)),hz4,hz4⟩,_,[],by rw[List.append_nil],rfl,⟨_,rfl,rfl,rfl,h2.le (View.le_trans l3 l4),h3.le l4,hz4⟩,rfl⟩
 have s0:∀m∈ms0,m.in64/\m.p.szle 1100:=by
  have z0:Cq.zero.sz<=64:=by decide +kernel
  have i0:∀n:Int,-9223372036854775808<=n/\n<=9223372036854775807->(intQ n).sz<=1100:=λn h=>Nat.le_trans (I0b h) (by omega)
  intro m hm
  simp only[ms0,List.mem_cons,List.not_mem_nil,or_false]at hm
  rcases hm with rfl|rfl|rfl
  . exact⟨⟨⟨by decide,by decide⟩,⟨by decide,by decide⟩⟩,Nat.le_trans z0 (by omega),Nat.le_trans z0 (by omega),Nat.le_trans z0 (by omega)⟩
  . exact⟨⟨⟨by decide,by decide⟩,⟨by decide,by decide⟩⟩,i0 2 (by omega),Nat.le_trans z0 (by omega),Nat.le_trans z0 (by omega)⟩
  . exact⟨⟨⟨by decide,by decide⟩,⟨by decide,by decide⟩⟩,i0 1 (by omega),i0 3 (by omega),Nat.le_trans z0 (by omega)⟩
 refine(q10 hM (λm hm=>(s0 m hm).1) (λm hm=>(s0 m hm).2)).mono λv V5 l5 ⟨r4,hv,h4,hsz⟩=>⟨r4,_,hv,?_⟩
 rw[Z0s]at h4
 simp only[if_true]at h4
 refine(J0y h4 (hsz Z0s) (by omega)).mono λv V6 l6 ⟨r6,hv,h6⟩=>⟨r6,_,hv,?_⟩
 rw[F10]at h6
 refine(P0l (by omega) (by omega)).mono λv V7 l7 ⟨r8,hv,h8⟩=>⟨r8,hv,?_⟩
 refine(P0l (by omega) (by omega)).mono λv V8 l8 ⟨r9,hv,h9⟩=>⟨r9,hv,λb2 V9 l9 _ hb2 => ?_⟩
 have hz9:T00 V9 zN Cq.zero:=T00.zero V9
 have hT:A0a V9 (Sl.mk (some (Addr.mk b2 0 none)) 2 2) ts0:=by
  refine k00.of_block (V:=V9) (sz:=10) (P:=f0w) (zs:=ts0) (o:=(q0g.mk zN zN).val.cells.toList++(q0g.mk r8 r9).val.cells.toList) (o':=[]) (b:=b2) (λ_=>by rw[List.append_nil]; exact hb2) ?_ rfl (Nat.le_refl _) (λ_=>rfl)
  exact⟨_,_,rfl,rfl,⟨_,rfl,hz9,hz9⟩,_,[],by rw[List.append_nil],rfl,⟨_,rfl,h8.le (View.le_trans l8 l9),h9.le l9⟩,rfl⟩
 refine(P0l (by omega) (by omega)).mono λv V10 l10 ⟨r10,hv,h10⟩=>⟨r10,hv,?_⟩
 have t0:∀k∈ts0,k.szle 64:=by
  have z0:Cq.zero.sz<=64:=by decide +kernel
  intro k hk
  simp only[ts0,List.mem_cons,List.not_mem_nil,or_false]at hk
  rcases hk with rfl|rfl
  . exact⟨z0,z0⟩
  . exact⟨I0b (by omega),I0b (by omega)⟩
 refine(b0z (S:=64) (hT.le l10) h10 t0 (I0b (by omega)) (by omega)).mono λv V11 l11 ⟨r11,hv,h11⟩=>⟨r11,_,hv,?_⟩
 rw[W13]at h11
 refine D12.mono λv V12 l12 hv=>⟨_,_,hv,λ_=>⟨λ_ => ?_,λh => ?_⟩,λh => ?_⟩
 . have L12:=View.le_trans l7 (View.le_trans l8 (View.le_trans l9 (View.le_trans l10 (View.le_trans l11 l12))))
   have i2:(intQ 2).sz<=2^40:=Nat.le_trans (I0b (by omega)) (by omega)
   have i6:(intQ 6).sz<=2^40:=Nat.le_trans (I0b (by omega)) (by omega)
   refine(Q0f (h6.le L12) i2).mono λv V13 l13 hv=>⟨_,hv,λ_=>⟨λ_ => ?_,λh => ?_⟩,λh => ?_⟩
   . refine(Q0f (h11.le (View.le_trans l12 l13)) i6).mono λv V14 _ hv=>⟨_,hv,λ_=>⟨λ_=>rfl,λh=>absurd h (by decide)⟩,λh => ?_⟩
     rw[p14]at h; exact absurd h (by decide)
   . rw[H10]at h; exact absurd h (by decide)
   . rw[o14]at h; exact absurd h (by decide)
 . rw[if_pos G10]at h; exact absurd h (by decide)
 . rw[Z0s]at h; exact absurd h (by decide)
end Go.Proofs.YtfdaofhjkdabbaaGreat
namespace Go.Proofs.YtfdaofhjkdabbaaGreat
open Go Go.Vc Go.Proofs Go.ChangeShapes Go.RowKit
abbrev i3(fs:List FK):List FK := .int .i64 :: .int .i64 :: .int .i64::fs
theorem q14{fs:List FK}{cs:List Value}(h:K0f (i3 fs) cs) :
 ∃(r:RatV) (cs':List Value),cs = .int .i64 r.re :: .int .i64 r.im :: .int .i64 r.den::cs'/\ratI r/\K0f fs cs':=by
 cases cs with
 | nil=>exact h.elim
 | cons x cs =>
   obtain⟨⟨a,e1,w1⟩,h⟩:=h
   cases cs with
   | nil=>exact h.elim
   | cons y cs =>
     obtain⟨⟨b,e2,w2⟩,h⟩:=h
     cases cs with
     | nil=>exact h.elim
     | cons z cs =>
       obtain⟨⟨c,e3,w3⟩,h⟩:=h
       exact⟨⟨a,b,c⟩,cs,by rw[e1,e2,e3],⟨bounds_i64 w1,bounds_i64 w2,bounds_i64 w3⟩,h⟩
theorem c0z{cs:List Value}(h:K0f [] cs):cs=[]:=by
 cases cs with
 | nil=>rfl
 | cons _ _=>exact h.elim
section
variable {H:Type} {enc:TypeId×Value->H} {P:Program} {w:World} {base:Nat} {spare:Nat->Bool} {held:Bool} {t:TypeId} {v:Value} {dd:DataW H} {ps:List MemPlace}
end
end Go.Proofs.YtfdaofhjkdabbaaGreat
namespace Go.Proofs.YtfdaofhjkdabbaaGreat
open Go Go.Vc Go.Proofs
theorem oneB{V:View}{x:List Value}{b:Bk}(h:boxC V x b):∀v∈x,Value.oneCell' v=true:=by
 obtain⟨e,_⟩:=h
 subst e
 intro v hv
 have e:b.v.val.cells.toList=[.float .f64 b.v.re.lo,.float .f64 b.v.re.hi,.float .f64 b.v.im.lo,.float .f64 b.v.im.hi]:=rfl
 rw[e]at hv
 simp only[List.mem_cons,List.not_mem_nil,or_false]at hv
 rcases hv with rfl|rfl|rfl|rfl<;>rfl
theorem u14{V:View}{o:List Value}{row:List Bk}(h:t01 4 boxC V o row):∀v∈o,Value.oneCell' v=true:=by
 induction row generalizing o with
 | nil=>rw[show o=[]from h]; simp
 | cons z zs ih =>
   obtain⟨x,o',e,hx,hp,ht⟩:=h
   subst e
   intro v hv
   rw[List.mem_append]at hv
   rcases hv with hv|hv
   . exact oneB hp v hv
   . exact ih ht v hv
theorem c0g{m V:View}{s:Sl}{row:List Bk}{o:List Value}(hC:t01 4 boxC V o row)(ho:has2 m V s.a o)(hl:s.len=row.length)(ha:s.a=none->row=[])(hb:row.length<=2^30) :
 O09 Tryz.prog Z04 #[s.v] m V λv m' V'=>∃(r:Sl) (b:Nat),v=r.v/\RowR 4 boxC m' V' r b row/\(row≠[]->m b=none)/\(∀i,i≠b\/row=[]->m' i=m i):=by
 refine c07 m s V _ ⟨trivial,λh => ?_,λh b1 V1 l1 hf hb1 => ?_⟩
 . have e:=ha (by simpa using h)
   exact⟨⟨none,0,0⟩,0,rfl,⟨by rw[e]; rfl,Nat.le_refl _,λ_=>rfl,λh=>absurd e h⟩,λh=>absurd e h,λ_ _=>rfl⟩
 . have hol:=hC.length
   refine⟨[],o,⟨Nat.le_refl _,λh=>by simp at h⟩,.inl (by intro j v hj; simp at hj),by simp,f0g l1 ho,by rw[hol,hl],u14 hC,by unfold maxLen; omega,by omega,λh1 h2=>by omega,λa1 c1 m1 ha1 => ?_⟩
   have hC1:t01 4 boxC V1 o row:=hC.imp (boxC.le l1)
   obtain⟨b,hr,hb2,hm,hm2⟩:=S0l hC1 rfl hl ha1
   exact⟨_,b,rfl,hr,hb2,λi hi=>by
    rcases hi with hi|hi
    . exact hm i hi
    . rw[hm2 hi]⟩
theorem M0k{V:View}{s:Sl}{row:List Bk}(h:k00 4 boxC V s row)(hb:row.length<=2^30) :
 a00 Tryz.prog Z04 #[s.v] V λv V'=>∃r:Sl,v=r.v/\k00 4 boxC V' r row:=by
 obtain⟨hl,hc,hn,o,ho,hC⟩:=h
 refine O09.known (c0g (m:=λ_=>none) hC (.inr ho) hl (λe => ?_) hb) λv m V' V2 l e ap ⟨r,b,hv,hr,_⟩=>⟨r,hv,?_⟩
 . rcases Classical.em (row=[])with g|g
   . exact g
   . have:=hn g; rw[e]at this; simp at this
 . subst e
   exact hr.known (boxC.le (W0l ap)) (λb cs g=>c0r g)
theorem J0d{V:View}{p:Sl}{rows:List (List Bk)}(h:l04 4 boxC V p rows) :
 a00 Tryz.prog X08 #[p.v] V λv V'=>∃g:s05,v = .tuple #[g.val,.int .i64 (l0q rows)]/\l04 4 boxC V' g.rows (M0c rows):=by
 have hl:p.len=rows.length:=h.len
 have bad:∀V':View,J09 rows=false->∃g:s05,Value.tuple #[(s05.mk (Sl.mk none 0 0)).val,.int .i64 4] = .tuple #[g.val,.int .i64 (l0q rows)]/\l04 4 boxC V' g.rows (M0c rows):=λV' e=>by
  refine⟨⟨⟨none,0,0⟩⟩,?_,?_⟩
  . unfold l0q; rw[e]; rfl
  . unfold M0c; rw[e]; exact k00.nil
 refine N08 p V _ (λ_ _ _=>1<=rows.length/\rows.length<=64)
  (λ_ x V'=>∃(t:Nat) (l:List Value),x.t18=t/\t<=rows.length/\f03 1 x.o4_0l x.o4_0c x.o45 l/\x.o4_0l=t/\t01 1 (λV x row=>∃s:Sl,x=[s.v]/\k00 4 boxC V s row) V' l (rows.take t)/\∀row∈rows.take t,a0e (m09 rows) row=true)
  (λ_ x _=>rows.length-x.t18.toNat) ?_
 rw[hl]
 refine⟨⟨λc=>bad V ?_,λc=>⟨λc'=>bad V ?_,λc' => ?_⟩⟩,?_⟩
 . unfold J09
   have c:=of_decide_eq_true c
   have:decide (1<=rows.length)=false:=decide_eq_false (by omega)
   rw[this]; rfl
 . unfold J09
   have c':=of_decide_eq_true c'
   have:decide (rows.length<=64)=false:=decide_eq_false (by omega)
   rw[this,Bool.false_and,Bool.and_false]
 . have c:=of_decide_eq_false c
   have c':=of_decide_eq_false c'
   omega
 rintro⟨o2⟩ V1 l1 ⟨n1,n2⟩
 refine⟨⟨0,[],rfl,by omega,f03.nil,rfl,rfl,by simp⟩,?_⟩
 rintro⟨t18,o2',k,c,o⟩ V2 l2 ⟨t,l,et,ht,hL,ek,hC,hall⟩
 dsimp only at et hL ek hC ⊢
 subst et; subst ek
 have L2:=View.le_trans l1 l2
 refine⟨λhlt => ?_,λhge => ?_⟩
 . have hk:k<rows.length:=by simp at hlt; omega
   have ek:rows[k]?=some rows[k]:=List.getElem?_eq_getElem hk
   have hmem:=List.getElem_mem hk
   obtain⟨g,s,h1,h2⟩:=(l04.le boxC.le L2 h).row (t:=(k:Int)) (by omega) (row:=rows[k]) (by rw[Int.toNat_natCast]; exact ek)
   have hs:s.len=rows[k].length:=h2.len
   rw[hl]at g
   have tk:rows.take (k+1)=rows.take k++[rows[k]]:=by rw[List.take_add_one,ek]; rfl
   generalize rows[k]=row at *
   have no:a0e (m09 rows) row=false->J09 rows=false:=λe=>by
    unfold J09
    rw[List.all_eq_false.2 ⟨row,hmem,by rw[e]; simp⟩,Bool.and_false,Bool.and_false]
   refine⟨g,s,h1,λc1=>bad V2 (no ?_),λc1=>⟨λc2=>bad V2 (no ?_),λc2 => ?_⟩⟩
   . unfold a0e
     have c1:=of_decide_eq_true c1
     have:decide (1<=row.length)=false:=decide_eq_false (by omega)
     rw[this]; rfl
   . unfold a0e
     have c2:=of_decide_eq_true c2
     have:decide (row.length<=64)=false:=decide_eq_false (by omega)
     rw[this,Bool.false_and,Bool.and_false]
   obtain⟨row0,e0,e1⟩:=I0t (rows:=rows) (by omega)
   obtain⟨g0,s0,h3,h4⟩:=(l04.le boxC.le L2 h).row (t:=(0:Int)) (by omega) (row:=row0) e0
   have hs0:s0.len=m09 rows:=by rw[<-e1]; exact h4.len
   rw[hl]at g0
   refine⟨g0,s0,h3,λc3=>bad V2 (no ?_),λc3 => ?_⟩
   . unfold a0e
     have:decide (row.length=m09 rows)=false:=decide_eq_false (λe=>by rw[hs,hs0,e]at c3; simp at c3)
     rw[this,Bool.and_false,Bool.and_false]
   have ok:a0e (m09 rows) row=true:=by
    have c1:=of_decide_eq_false c1
    have c2:=of_decide_eq_false c2
    have c3:row.length=m09 rows:=by rw[hs,hs0]at c3; simp at c3; omega
    unfold a0e
    rw[decide_eq_true (show 1<=row.length by omega),decide_eq_true (show row.length<=64 by omega),decide_eq_true c3]; rfl
   refine(M0k h2 (by have:=of_decide_eq_false c2; omega)).mono λv V3 l3 ⟨r1,hv,hr⟩=>⟨r1,hv,λb1 V4 l4 _ hb1 => ?_⟩
   have hnew:V4.has (some (Addr.mk b1 0 none)) [r1.v]:=Q04 (cs:=[r1.v]) (j:=0) hb1 (λi v hv=>by rw[Nat.zero_add]; exact hv) rfl
   refine⟨l,_,hL,hnew,rfl,by intro v hv; simp at hv; subst hv; rfl,by unfold maxLen; omega,by omega,λc1 l3' hl3 => ?_⟩
   rw[i64w (by omega) (by omega)]
   have L24:=View.le_trans l3 l4
   refine⟨⟨k+1,_,by omega,by omega,hl3,rfl,?_,λrow' hr' => ?_⟩,by omega⟩
   . rw[tk]
     exact(hC.imp λ_ _ ⟨s,e,hs⟩=>⟨s,e,k00.le (boxC.le L24) L24 hs⟩).append (t01.one rfl ⟨_,rfl,k00.le (boxC.le l4) l4 hr⟩)
   . rw[tk]at hr'
     rcases List.mem_append.1 hr' with hr'|hr'
     . exact hall row' hr'
     . rw[show row'=row by simpa using hr']; exact ok
 . have e:k=rows.length:=by simp at hge; omega
   subst e
   rw[List.take_length]at hC hall
   intro b2 V5 l5 hb2
   have ok:J09 rows=true:=by
    unfold J09
    simp only[Bool.and_eq_true,decide_eq_true_eq,List.all_eq_true]
    exact⟨n1,n2,hall⟩
   refine⟨⟨⟨lstA b2 c,rows.length,c⟩⟩,by unfold l0q; rw[ok]; rfl,?_⟩
   unfold M0c; rw[if_pos ok]
   exact G05 hL hb2 (hC.imp λ_ _ ⟨s,e,hs⟩=>⟨s,e,k00.le (boxC.le l5) l5 hs⟩) rfl
theorem e0b{V:View}{g:s05}{rows:List (List Bk)}(h:l04 4 boxC V g.rows rows) :
 a00 Tryz.prog I07 #[g.val] V λv _=>v = .tuple #[.int .i64 (rows.length:Int),.int .i64 (m09 rows:Int)]:=by
 have hl:g.rows.len=rows.length:=h.len
 refine d07 g V _ ⟨λc => ?_,λc => ?_⟩
 . have e:rows=[]:=List.length_eq_zero_iff.1 (by simp at c; omega)
   subst e; rfl
 . obtain⟨row0,e0,e1⟩:=I0t (rows:=rows) (by simp at c; omega)
   obtain⟨g0,s0,h3,h4⟩:=h.row (t:=(0:Int)) (by omega) (row:=row0) e0
   refine⟨g0,s0,h3,?_⟩
   rw[h4.len,e1,hl]
theorem G0j{V:View}{g:s05}{rows:List (List Bk)}{i j:Int}(h:l04 4 boxC V g.rows rows)(hr:Rect rows)(d:Bk) :
 a00 Tryz.prog o08 #[g.val,.int .i64 i,.int .i64 j] V λv V'=>∃(r:BoxV) (e:Int),v = .tuple #[r.val,.int .i64 e] /\
  ((0<=i/\i<rows.length)/\(0<=j/\j<m09 rows)->e=0/\boxC V' r.val.cells.toList ((rows.getD i.toNat []).getD j.toNat d)) /\
  (¬((0<=i/\i<rows.length)/\(0<=j/\j<m09 rows))->e=1):=by
 refine J07 g i j V _ ((e0b h).mono λv V1 l1 hv=>⟨_,_,hv,λc => ?_,λc=>⟨λc2 => ?_,λc2=>⟨λc3 => ?_,λc3=>⟨λc4 => ?_,λc4 => ?_⟩⟩⟩⟩)
 . have c:=of_decide_eq_true c
   exact⟨_,_,rfl,λk=>absurd k.1.1 (by omega),λ_=>rfl⟩
 . have c2:=of_decide_eq_true c2
   exact⟨_,_,rfl,λk=>absurd k.1.2 (by omega),λ_=>rfl⟩
 . have c3:=of_decide_eq_true c3
   exact⟨_,_,rfl,λk=>absurd k.2.1 (by omega),λ_=>rfl⟩
 . have c4:=of_decide_eq_true c4
   exact⟨_,_,rfl,λk=>absurd k.2.2 (by omega),λ_=>rfl⟩
 . have c:=of_decide_eq_false c
   have c2:=of_decide_eq_false c2
   have c3:=of_decide_eq_false c3
   have c4:=of_decide_eq_false c4
   have hi:i.toNat<rows.length:=by omega
   have ek:rows[i.toNat]?=some (rows.getD i.toNat []):=by simp[List.getD,hi]
   obtain⟨g1,s,h1,h2⟩:=(l04.le boxC.le l1 h).row (t:=i) (by omega) ek
   have hrl:=m0q hr ek
   have hj:j.toNat<(rows.getD i.toNat []).length:=by omega
   obtain⟨g2,x,hx,_,hh,hs⟩:=k00.get h2 (t:=j) (by omega) (z:=(rows.getD i.toNat []).getD j.toNat d) (E0b hj d)
   obtain⟨y,ey⟩:∃y:BoxV,x=y.val.cells.toList:=by obtain⟨e,_⟩:=hx; exact⟨_,e⟩
   subst ey
   exact⟨g1,s,h1,g2,y,hh,hs,_,_,rfl,λ_=>⟨rfl,hx⟩,λk=>absurd ⟨⟨by omega,by omega⟩,by omega,by omega⟩ k⟩
