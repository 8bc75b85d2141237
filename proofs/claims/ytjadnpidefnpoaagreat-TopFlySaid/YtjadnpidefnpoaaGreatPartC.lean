/- Part. -/
import Derived.Test.YtjadnpidefnpoaaGreatPartB
namespace Go.Proofs.YtjadnpidefnpoaaGreat
open Go Go.Vc Go.Proofs
open Go.Proofs.Tryz (prog)
open Go.IntKind (i64 u64 u32 u8)
theorem f0t{P vN v1 v2 u2 u1 u0 W g:Nat}(h:t0f P vN v1 v2 u2 u1 u0 W)(h1:W / vN<=g)(h2:(g-1)*vN<=W):g=W / vN\/g=W / vN+1:=by
 have hv:0<vN:=by
  rcases Ap vN with h0|h0
  . subst h0; have:=h.lt; omega
  exact h0
 have:=(Ez hv).2 h2;omega
theorem j0y{l:List Nat}{j n R:Nat}(h:seg l j (n+1)=R)(hR:R<4294967296^n):seg l j n=R:=by
 rw[L04]at h;have:l.getD (j+n) 0=0:=by
  rcases Ap (l.getD (j+n) 0)with h0|h0
  . exact h0
  exfalso;have:=Gc (4294967296^n) h0;omega
 rw[this]at h; simpa using h
theorem M10{A L T cr R vN k:Nat}(hA:A<4294967296^k)(_hR:R<4294967296^k)(hT:T<4294967296)(hcr:cr<=1)(h1:L+T*4294967296^k+vN=R+4294967296^(k+1))(h2:A+cr*4294967296^k=L+vN) :
 A+(T+cr)%4294967296*4294967296^k=R:=by
 rw[Ba]at h1;have h6:=Fg (T+cr) 4294967296;have b2:(T+cr) / 4294967296<=1:=by omega
 have b5:(T+cr)%4294967296<4294967296:=Dq _ (by omega);generalize (T+cr) / 4294967296=c at *;generalize (T+cr)%4294967296=z at *;generalize 4294967296^k=P at *;have h7:=Ck (·*P) h6;simp only[Bb]at h7;have b3:=Ag P (Dp b5);rw[Ci]at b3;rcases (by omega:c=0\/c=1)with h|h
 . subst h; simp only[Nat.mul_zero,Cy,Am]at h7; omega
 subst h; simp only[Ct]at h7; omega
theorem k0y{X m n vN sh a k:Nat}(ha:a<4294967296^k)(hm:m=k+1)(hX:X=a*2^sh)(hsh:sh<=31)(hn:n<=m)(h1:1<=n)(hv:2147483648*4294967296^(n-1)<=vN)(u:List Nat)(hu:seg u 0 m=X):seg u (m-n) n<vN:=by
 have e:=p0b u 0 (m-n) n;rw[show m-n+n=m by omega,hu,Am]at e;refine Cm ?_ hv;have hP:0<4294967296^(m-n):=Bi (by omega);refine Nat.lt_of_mul_lt_mul_left (a:=4294967296^(m-n)) ?_;refine Cs9 (by omega:_<=X) ?_;rw[hX,Nat.mul_left_comm,<-Av,show m-n+(n-1)=k by omega];have h3:2^sh<=2147483648:=Ar (by omega) (by omega:sh<=31)
 calc a*2^sh<=a*2147483648:=Cv _ h3
  _<4294967296^k*2147483648:=Bh ha (by omega)
  _=2147483648*4294967296^k:=Br _ _
theorem N10{X vN a b sh q r:Nat}(hX:X=a*2^sh)(hv:vN=b*2^sh)(_hb:b≠0)(h:X=r+vN*q)(hr:r<vN):q=a / b/\r / 2^sh=a%b:=by
 have hS:0<2^sh:=Eg sh;have e1:q=X / vN:=by rw[h,Nat.add_mul_div_left _ _ (by omega),Fb hr]; omega
 have e2:r=X%vN:=by rw[h,Nat.add_mul_mod_self_left,Bx9 hr]
 constructor
 . rw[e1,hX,hv,Nat.mul_div_mul_right _ _ hS]
 rw[e2,hX,hv,Nat.mul_mod_mul_right,Nat.mul_div_cancel _ hS]
set_option maxHeartbeats 4000000 in
theorem Q09{V:View}{s t:Sl}{a b:Nat}(hs:x02 V s a)(ht:x02 V t b)(ha:wn a<=2^43)(hb0:b≠0) :
 a00 prog X0w #[s.v,t.v] V λv V'=>∃q r:Sl,v = .tuple #[q.v,r.v]/\x02 V' q (a / b)/\x02 V' r (a%b):=by
 have hsl:=hs.len;have htl:=ht.len;obtain⟨sh,hsh⟩:∃sh,sh=32-bl ((dig b).getD (wn b-1) 0):=⟨_,rfl⟩;obtain⟨hsh1,hwv,hlo⟩:=K10 hb0 hsh;obtain⟨X,hX⟩:∃X,X=a*2^sh:=⟨_,rfl⟩;obtain⟨vN,hvN⟩:∃v,v=b*2^sh:=⟨_,rfl⟩;rw[<-hvN]at hwv hlo;obtain⟨m,hm⟩:∃m,m=s.len+1:=⟨_,rfl⟩;obtain⟨n,hn⟩:∃n,n=t.len:=⟨_,rfl⟩;have hna:wn a=s.len:=hsl.symm;have hnb:wn b=n:=by rw[hn]; exact htl.symm
 have hal:=B0l a;rw[hna]at ha hal;rw[hnb]at hwv hlo;have hcmp:=O09 hs ht (by omega);obtain⟨v1,hv1⟩:∃v1,v1=(dig vN).getD (n-1) 0:=⟨_,rfl⟩;obtain⟨v2,hv2⟩:∃v2,v2=(dig vN).getD (n-2) 0:=⟨_,rfl⟩;refine l0v s t V _
  (λc x V'=>∃(v:Sl) (j:Nat) (u qd:List Nat),c=Q03.mk (sh:Nat) v/\x02 V' v vN/\x=A04.mk ((j:Int)-1) (wv u) (wv qd)/\DivI X vN n m j u qd)
  (λ_ x _=>(x.t13+1).toNat)
  (λc x _=>∃(v:Sl) (j g:Nat) (u qd:List Nat),c=G03.mk (sh:Nat) v (j:Nat) (wv u) (wv qd)/\x=B04.mk (g:Nat)/\g<4294967296/\seg u j (n+1) / vN<=g/\(g-1)*vN<=seg u j (n+1))
  (λc x _=>∃(v:Sl) (j g r:Nat) (u qd:List Nat),c=l03.mk (sh:Nat) v (j:Nat) (wv u) (wv qd)/\x=H03.mk (g:Nat) (r:Nat)/\r<4294967296/\g*v1+r=u.getD (j+n) 0*4294967296+u.getD (j+n-1) 0 /\
    seg u j (n+1) / vN<=g)
  (λ_ x _=>x.t15.toNat)
  (λc x _=>∃(v:Sl) (j g k cr:Nat) (u qd u0 l':List Nat),c=C04.mk (sh:Nat) v (j:Nat) ((g-1:Nat):Int) v (n:Nat)/\x=o05.mk (cr:Nat) (k:Nat) (wv u) (wv qd)/\DivI X vN n m (j+1) u0 qd/\WB l'/\l'.length=m /\
    (∀i,i<j\/j+n<i->l'.getD i 0=u0.getD i 0)/\seg l' j (n+1)+g*vN=seg u0 j (n+1)+4294967296^(n+1)/\g<4294967296/\seg u0 j (n+1) / vN<=g/\(g-1)*vN<=seg u0 j (n+1)/\k<=n/\cr<=1/\WB u/\u.length=m /\
    (∀i,i<j\/j+k<=i->u.getD i 0=l'.getD i 0)/\seg u j k+cr*4294967296^k=seg l' j k+seg (dig vN) 0 k)
  (λ_ x _=>(n-x.t151).toNat)
  (hcmp.mono λv V1 l1 hv=>⟨_,hv,λhlt => ?_,λhge=>⟨λh1 => ?_,λh2 => ?_⟩⟩)
 ·
   have hlt:a<b:=by
    rcases Ad a b with h|h
    . exact h
    exfalso; revert hlt; rw[if_neg (by omega)]; split<;>simp
   exact⟨_,_,rfl,by rw[Fb hlt]; exact x02.zero V1,by rw[Bx9 hlt]; exact hs.le l1⟩
 ·
   have h1:n=1:=by have:(t.len:Int)=1:=(by simpa using h1); omega
   have hb1:b<4294967296:=by have:=B0l b; rw[hnb,h1]at this; simpa using this
   have hd:(dig b).getD 0 0=b:=by rw[a0o]; simp; omega
   have hg:=(ht.le l1).get (i:=0) (by omega) (by omega);simp only[Gm,hd]at hg;refine⟨⟨by omega,by omega,ht.isSome (by omega)⟩,_,hg,?_⟩;refine(F0l (hs.le l1) (by omega) (by omega) hb1).mono λv V2 l2 ⟨q,hv,hq⟩=>⟨q,_,hv,?_⟩;have hmod:a%b<b:=Dq _ (by omega);rw[u64w (by omega) (by omega)];refine(f08 (by omega) (by omega)).mono λv V3 l3 ⟨r,hv,hr⟩=>⟨r,hv,q,r,rfl,hq.le l3,?_⟩;rw[Aa]at hr; exact hr
 have hab:b<=a:=by
  rcases Ad a b with h|h
  . exfalso; revert hge; rw[if_pos h]; simp
  exact h
 have hnm:n<=s.len:=by rw[<-hna,<-hnb]; exact a0g hab
 have hn0:n≠0:=by rw[<-hnb]; intro e; exact hb0 (K07.1 e)
 have hn2:2<=n:=by have:¬(t.len:Int)=1:=(by simpa using h2); omega
 have E1:i64.wrap ((t.len:Int)-1)=((n-1:Nat):Int):=by rw[i64w (by omega) (by omega)]; omega
 have E2:i64.wrap ((s.len:Int)+1)=(m:Nat):=by rw[i64w (by omega) (by omega)]; omega
 have E3:i64.wrap ((m:Int)-(t.len:Int))=((m-n:Nat):Int):=by rw[i64w (by omega) (by omega)]; omega
 have E4:i64.wrap ((t.len:Int)-2)=((n-2:Nat):Int):=by rw[i64w (by omega) (by omega)]; omega
 have E5:i64.wrap (((m-n:Nat):Int)-1)=((m-n:Nat):Int)-1:=by rw[i64w (by omega) (by omega)]
 have E6:(t.len:Int)=(n:Nat):=by omega
 simp only[E1,E2,Aa,E3,E4,E5];have g1:=(ht.le l1).get (i:=((n-1:Nat):Int)) (by omega) (by omega);rw[Aa]at g1;refine⟨⟨by omega,by omega,ht.isSome (by omega)⟩,_,g1,?_⟩;have hbw:=(L08 b).getD (n-1);rw[hnb]at hsh;refine(P0c hbw).mono λv V4 l4 hv=>⟨_,hv,?_⟩;rw[<-hsh];refine(G05 (ht.le (Gx l1 l4)) (by omega) (by omega)).mono λv V5 l5 ⟨w,hv,hw⟩=>⟨w,hv,⟨by omega,by omega,by omega,by omega⟩,?_⟩;rw[<-hvN]at hw;have hwl:w.len=n:=by have:=hw.len; simp only[wn]at hwv; omega
 refine(G05 (hs.le (Gx l1 (Gx l4 l5))) (by omega) (by omega)).mono λv V6 l6 ⟨ua,hv,hua⟩=>⟨ua,hv,?_⟩;rw[<-hX]at hua;have hXm:wn X<=m:=by
  refine A07 ?_;rw[hX,hm,Ba];exact Nat.mul_lt_mul'' hal (Cs9 (Ar (by omega) hsh1) (by omega))
 have hual:=hua.len;simp only[wn]at hXm;refine⟨wv (dig X),j04.has hua,by rw[w03]; omega,?_,?_,?_,⟨by omega,by omega,by omega,by omega⟩,?_⟩
 . by_cases h0:ua.len=0
   . left; have:(dig X).length=0:=by omega
     rw[Cx this]; rfl
   right; exact hua.isSome (by omega)
 . intro v hv; simp only[wv,Bc]at hv; obtain⟨d,_,rfl⟩:=hv; rfl
 . rw[F0a,w03,w03]; simp; omega
 rw[F0a,F0a,F12 m (dig X) (by omega)];have hq0:seg (dig X++List.replicate (m-(dig X).length) 0) 0 m=X:=by
  rw[k0e (by simp; omega),Z0z,i04]
 have h7:=k0y hal hm hX hsh1 (by omega) (by omega) hlo _ hq0;refine⟨⟨w,m-n,_,_,rfl,hw.le l6,rfl,by omega,?_,by simp; omega,WB.zeros _,by simp,?_,h7⟩,?_⟩
 . intro d hd;rcases Cb.1 hd with hd|hd
   . exact L08 X d hd
   rw[(List.mem_replicate.1 hd).2]; omega
 . rw[show m-n+n=m by omega,hq0,Gs,G0a]; simp
 rintro _ V7 hle7 ⟨w',j,u,qd,hc,hw7,rfl,hD⟩;obtain rfl:w'=w:=by simp only[Q03.mk.injEq]at hc; exact hc.2.symm
 have hjl:=hD.jl;have hlu:=hD.lu;have hlq:=hD.lq;have hwu:=hD.wu;simp only[g0y];refine⟨λhp => ?_,λhp b1 V12 l12 hb1 b2 V13 l13 hb2 => ?_⟩
 . simp only[Du,Af]at hp;obtain⟨i,rfl⟩:∃i,j=i+1:=⟨j-1,by omega⟩;have e0:(((i+1:Nat):Int)-1)=(i:Nat):=by omega
   simp only[e0];have F1:i64.wrap ((i:Int)+t.len)=((i+n:Nat):Int):=by rw[i64w (by omega) (by omega)]; omega
   have F2:i64.wrap (((i+n:Nat):Int)-1)=((i+n-1:Nat):Int):=by rw[i64w (by omega) (by omega)]; omega
   have F3:i64.wrap (((i+n:Nat):Int)-2)=((i+n-2:Nat):Int):=by rw[i64w (by omega) (by omega)]; omega
   have F4:i64.wrap ((i:Int)-1)=(i:Int)-1:=by rw[i64w (by omega) (by omega)]
   simp only[F1,F2,F3,F4,Aa,Am,Ct];have G:=X0z hwu hn2 hwv hD.lt;rw[<-hv1,<-hv2]at G;obtain⟨W,hW⟩:∃W,W=seg u i (n+1):=⟨_,rfl⟩;obtain⟨u2,hu2⟩:∃x,x=u.getD (i+n) 0:=⟨_,rfl⟩;obtain⟨u1,hu1⟩:∃x,x=u.getD (i+n-1) 0:=⟨_,rfl⟩;obtain⟨u0,hu0⟩:∃x,x=u.getD (i+n-2) 0:=⟨_,rfl⟩;rw[<-hW,<-hu2,<-hu1,<-hu0]at G;have hu2l:u2<4294967296:=by rw[hu2]; exact hwu.getD _
   have hv1l:=G.h1;have hv1p:=G.pos;have hu1l:=G.k1;have hv1b:2147483648<=v1:=by
    have hvn0:vN≠0:=by rintro rfl; rw[s0d]at hwv; omega
    have h3:=(f0f hvn0).2.1;rw[hwv,<-hv1]at h3;have h4:2147483648*4294967296^(n-1)<(v1+1)*4294967296^(n-1):=by omega
    have:=Nat.lt_of_mul_lt_mul_right h4;omega
   have gv1:=(hw7).get (i:=((n-1:Nat):Int)) (by omega) (by omega);rw[Aa,<-hv1,Ct]at gv1;have gv2:=(hw7).get (i:=((n-2:Nat):Int)) (by omega) (by omega);rw[Aa,<-hv2,Ct]at gv2;have hws:=hw7.isSome (by omega);have hor:BitVec.toNat ((BitVec.ofInt u64.bits (u64.wrap ((u64.wrap (u2:Int))*4294967296))) ||| (BitVec.ofInt u64.bits (u64.wrap (u1:Int))))=u2*4294967296+u1:=by
    rw[u64w (n:=(u2:Int)) (by omega) (by omega),u64w (n:=(u1:Int)) (by omega) (by omega),u64w (by omega) (by omega),show(u2:Int)*4294967296=((u2*4294967296:Nat):Int)by omega];exact or64 hu1l hu2l
   refine⟨⟨by omega,by omega⟩,_,P0g (by omega),⟨by omega,by omega⟩,_,P0g (by omega),⟨by omega,by omega,hws⟩,_,gv1,?_,⟨by omega,by omega,hws⟩,_,gv1,?_,⟨?_,?_⟩,?_⟩
   . rw[u64w (by omega) (by omega)]; omega
   . rw[u64w (by omega) (by omega)]; omega
   ·
     rw[<-hu2,<-hu1,hor,u64w (n:=(v1:Int)) (by omega) (by omega),u64w (n:=((u2*4294967296+u1:Nat):Int)) (by omega) (by omega),<-Int.ofNat_tdiv,<-Int.ofNat_tmod];have h3:(u2*4294967296+u1) / v1<=u2*4294967296+u1:=Eh _ _;have h4:(u2*4294967296+u1)%v1<v1:=Dq _ hv1p;have h5:=Nat.div_add_mod' (u2*4294967296+u1) v1;have h6:=G.init;generalize (u2*4294967296+u1) / v1=g at *;generalize (u2*4294967296+u1)%v1=r at *;rw[u64w (n:=(g:Int)) (by omega) (by omega)];refine⟨w',i,g,r,u,qd,rfl,rfl,by omega,?_,?_⟩
     . rw[<-hu2,<-hu1]; exact h5
     rw[<-hW]; exact h6
   ·
     rintro _ V9 l9 ⟨w2,i2,g,r,u',qd',hc2,rfl,hr,hgr,hge⟩;simp only[l03.mk.injEq]at hc2;obtain⟨_,rfl,hi2,hu',hq'⟩:=hc2;obtain rfl:i2=i:=by omega
     obtain rfl:=K0t hu';obtain rfl:=K0t hq';rw[<-hu2,<-hu1]at hgr;rw[<-hW]at hge;have hgl:g<8589934592:=by
      rcases Ad g 8589934592 with h|h
      . exact h
      exfalso;have:=El h hv1b;omega
     have gv1':=H02 l9 gv1;have gv2':=H02 l9 gv2;simp only;have down:0<g->W / vN<=g-1->(4294967296<=r+v1->(g-1-1)*vN<=W/\g-1<4294967296) ->
      ((decide (((u64.wrap ((r:Int)+(u64.wrap (v1:Int)))):Int)>=4294967296))=true ->
        ∃(v:Sl) (j g':Nat) (u1 qd1:List Nat),G03.mk (sh:Nat) w' (i2:Nat) (wv u) (wv qd)=G03.mk (sh:Nat) v (j:Nat) (wv u1) (wv qd1)/\B04.mk (u64.wrap ((g:Int)-1))=B04.mk (g':Nat)/\g'<4294967296/\seg u1 j (n+1) / vN<=g'/\(g'-1)*vN<=seg u1 j (n+1)) /\
      ((decide (((u64.wrap ((r:Int)+(u64.wrap (v1:Int)))):Int)>=4294967296))=false ->
        (∃(v:Sl) (j g' r':Nat) (u1 qd1:List Nat),l03.mk (sh:Nat) w' (i2:Nat) (wv u) (wv qd)=l03.mk (sh:Nat) v (j:Nat) (wv u1) (wv qd1) /\
          H03.mk (u64.wrap ((g:Int)-1)) (u64.wrap ((r:Int)+(u64.wrap (v1:Int))))=H03.mk (g':Nat) (r':Nat)/\r'<4294967296/\g'*v1+r'=u1.getD (j+n) 0*4294967296+u1.getD (j+n-1) 0/\seg u1 j (n+1) / vN<=g') /\
        (u64.wrap ((g:Int)-1)).toNat<(g:Int).toNat):=by
      intro h0 h1 h2;rw[u64w (n:=(v1:Int)) (by omega) (by omega),u64w (n:=(r:Int)+v1) (by omega) (by omega),u64w (n:=(g:Int)-1) (by omega) (by omega)];have e1:(g:Int)-1=((g-1:Nat):Int):=by omega
      have e2:(r:Int)+v1=((r+v1:Nat):Int):=by omega
      rw[e1,e2];refine⟨λh => ?_,λh => ?_⟩
      . simp only[Du,Af]at h;obtain⟨h3,h4⟩:=h2 (by omega);exact⟨w',i2,g-1,u,qd,rfl,rfl,h4,by rw[<-hW]; exact h1,by rw[<-hW]; exact h3⟩
      simp only[Du,Ac]at h;refine⟨⟨w',i2,g-1,r+v1,u,qd,rfl,rfl,by omega,?_,by rw[<-hW]; exact h1⟩,by omega⟩;rw[<-hu2,<-hu1,<-hgr];obtain⟨k,rfl⟩:∃k,g=k+1:=⟨g-1,by omega⟩;rw[Ci,Cf]; omega
     refine⟨λhp2=>⟨λ_ => ?_,λh=>by cases h⟩,λhp2 => ?_⟩
     . simp only[Du,Af]at hp2;have hq:=G.quo;refine⟨⟨by omega,by omega,hws⟩,_,gv1',?_⟩;exact down (by omega) (by omega) (λh=>(G.brk hgr (by omega) h).symm)
     simp only[Du,Ac]at hp2;have hg32:g<4294967296:=by omega
     have hv2l:=G.h2;have hm1:=o0o hg32 hv2l;have hu0l:=G.k0;refine⟨⟨by omega,by omega,hws⟩,_,gv2',⟨by omega,by omega⟩,_,P0g (by omega),?_⟩;rw[<-hu0];have hor2:BitVec.toNat ((BitVec.ofInt u64.bits (u64.wrap ((r:Int)*4294967296))) ||| (BitVec.ofInt u64.bits (u64.wrap (u0:Int))))=r*4294967296+u0:=by
      rw[u64w (n:=(u0:Int)) (by omega) (by omega),u64w (by omega) (by omega),show(r:Int)*4294967296=((r*4294967296:Nat):Int)by omega];exact or64 hu0l hr
     rw[hor2,u64w (n:=(v2:Int)) (by omega) (by omega),<-Cc,u64w (n:=((g*v2:Nat):Int)) (by omega) (by omega),u64w (n:=((r*4294967296+u0:Nat):Int)) (by omega) (by omega)];refine⟨λhp3 => ?_,λhp3 => ?_⟩
     . simp only[gt_iff_lt,Af]at hp3;have hd:=G.dec hgr (by omega);refine⟨⟨by omega,by omega,hws⟩,_,gv1',?_⟩;have hg0:0<g:=Cs9 (Ev _) hd;exact down hg0 (Nat.le_sub_one_of_lt hd) (λh=>(G.brk hgr hg0 h).symm)
     simp only[gt_iff_lt,Ac]at hp3;exact⟨w',i2,g,u,qd,rfl,rfl,hg32,by rw[<-hW]; exact hge,by rw[<-hW]; exact G.exit hgr hg32 (by omega)⟩
   ·
     rintro _ V8 l8 ⟨w2,i2,g,u',qd',hc2,rfl,hg32,hge,hgl⟩;simp only[G03.mk.injEq]at hc2;obtain⟨_,rfl,hi2,hu',hq'⟩:=hc2;obtain rfl:i2=i:=by omega
     obtain rfl:=K0t hu';obtain rfl:=K0t hq';rw[<-hW]at hge hgl
     have hvpos : 0 < vN := by rcases Ap vN with h | h; · subst h; rw [s0d] at hwv; omega
                               . exact h
     have hcase:=f0t G hge hgl;have hq32:=G.quo;have hvlt:vN<4294967296^n:=by rw[<-hwv]; exact B0l vN
     have hWdm:=Fg W vN;have hWm:W%vN<vN:=Dq _ hvpos;have htake:=q0o (sv:=w') (q:=g) (j:=i2) (m:=m) (l:=u) (hw7.le l8) hg32 hlu hwu (by omega) (by omega);rw[hwl]at htake;have hme:((i2:Int)-1+1).toNat<(((i2+1:Nat):Int)).toNat:=by omega
     refine htake.mono λv l2 V10 l10 ⟨neg,l',hv,hl2,hwl',hll',hout,heq⟩=>⟨neg,hv,λhn1 => ?_,λhn1 => ?_⟩
     ·
       subst hl2;rw[hn1,if_pos rfl]at heq;have hg0:0<g:=by
        rcases Ap g with h|h
        . exfalso; subst h; have:=x0i hwl' i2 (n+1); omega
        exact h
       have hgq:g=W / vN+1:=by
        rcases hcase with h|h
        . exfalso;have h1:=x0i hwl' i2 (n+1);rw[<-hW]at heq;rw[h,Br]at heq; omega
        exact h
       rw[u64w (n:=(g:Int)-1) (by omega) (by omega),show(g:Int)-1=((g-1:Nat):Int)by omega,show(w'.len:Int)=(n:Nat)by omega];refine⟨⟨w',i2,g,0,0,l',qd,u,l',rfl,rfl,hD,hwl',hll',?_,heq,hg32,by rw[<-hW]; exact hge,by rw[<-hW]; exact hgl,by omega,by omega,hwl',hll',λ_ _=>rfl,by simp[G0a]⟩,?_⟩
       . intro i hi; exact hout i (by omega)
       rintro _ V11 l11 ⟨w3,i3,g3,k,cr,u3,qd3,u03,l3,hc3,rfl,hD3,hwl3,hll3,hout3,heq3,hg3,hge3,hgl3,hk,hcr,hwu3,hlu3,hout4,hseg⟩;simp only[C04.mk.injEq]at hc3;obtain⟨_,rfl,hi3,hg3',_,_⟩:=hc3;obtain rfl:i3=i2:=by omega
       have hD3l:=hD3.lu;have hD3q:=hD3.lq;simp only[Aa];refine⟨λhp4 => ?_,λhp4 => ?_⟩
       . simp only[Af]at hp4;have hkn:k<n:=by omega
         have K1:i64.wrap ((k:Int)+i3)=((i3+k:Nat):Int):=by rw[i64w (by omega) (by omega)]; omega
         simp only[K1,Aa];have hA:=(L08 vN).getD k;have hU:=hwu3.getD (i3+k);have gk:=(hw7.le (Gx l8 (Gx l10 l11))).get (i:=(k:Nat)) (by omega) (by omega);simp only[Aa,Ct]at gk;refine⟨⟨by omega,by omega,hws⟩,_,gk,⟨by omega,by omega⟩,_,P0g (by omega),⟨by omega,by omega⟩,by rw[w03]; omega,?_⟩;generalize hA':(dig vN).getD k 0=A at *;generalize hU':u3.getD (i3+k) 0=U at *;rw[u64w (n:=(U:Int)) (by omega) (by omega),u64w (n:=(A:Int)) (by omega) (by omega),u64w (n:=(U:Int)+A) (by omega) (by omega),u64w (n:=(cr:Int)+(U+A)) (by omega) (by omega),
          Bd _ (by omega),i64w (n:=(k:Int)+1) (by omega) (by omega)]
         have K2:u32.wrap ((cr:Int)+(U+A))=(((cr+U+A)%4294967296:Nat):Int):=by rw[u32m]; omega
         have K3:((cr:Int)+(U+A)) / 4294967296=(((cr+U+A) / 4294967296:Nat):Int):=by omega
         rw[K2,K3,o0b];refine⟨⟨w',i3,g3,k+1,(cr+U+A) / 4294967296,u3.set (i3+k) ((cr+U+A)%4294967296),qd3,u03,l3,by rw[hg3'],rfl,hD3,hwl3,hll3,hout3,heq3,hg3,hge3,hgl3,by omega,by omega,hwu3.set (by omega),by simpa using hlu3,?_,?_⟩,by omega⟩
         . intro i hi; rw[H0a,if_neg (by omega)]; exact hout4 i (by omega)
         have hL:l3.getD (i3+k) 0=U:=by rw[<-hU']; exact(hout4 (i3+k) (by omega)).symm
         rw[M06 rfl (by omega),L04,L04,Am,hA',hL,Ba];have h6:(cr+U+A)%4294967296+(cr+U+A) / 4294967296*4294967296=cr+U+A:=by omega
         have h7:=Ck (·*4294967296^k) h6;simp only[Bb]at h7 hseg ⊢;have h9:∀z,z*(4294967296^k*4294967296)=z*4294967296*4294967296^k:=by intro z; grind
         rw[h9];omega
       simp only[Ac]at hp4;have hkn:k=n:=by omega
       subst hkn;have hT:=hwu3.getD (i3+k);refine⟨⟨by omega,by omega⟩,_,P0g (by omega),⟨by omega,by omega⟩,by rw[w03]; omega,⟨by omega,by omega⟩,by rw[w03]; omega,?_⟩;generalize hT':u3.getD (i3+k) 0=T at *;have K1:u32.wrap ((T:Int)+u32.wrap (cr:Int))=(((T+cr)%4294967296:Nat):Int):=by rw[u32w (n:=(cr:Int)) (by omega) (by omega),u32m]; omega
       have hg3e:g3=g:=by
        have h1:g3-1=g-1:=by omega
        have:0<g3:=by
         rcases Ap g3 with h|h
         . exfalso; subst h; have:=x0i hwl3 i3 (k+1); omega
         exact h
        omega
       subst hg3e;rw[u32w (n:=((g3-1:Nat):Int)) (by omega) (by omega),K1,o0b,o0b];refine⟨⟨w',i3,u3.set (i3+k) ((T+cr)%4294967296),qd3.set i3 (g3-1),rfl,hw7.le (Gx l8 (Gx l10 l11)),rfl,?_⟩,hme⟩;have hW3:∃R,seg u03 i3 (k+1)=R+(g3-1)*vN/\R<vN/\seg l3 i3 (k+1)+vN=R+4294967296^(k+1):=by
        obtain⟨W3,hW3⟩:∃W3,W3=seg u03 i3 (k+1):=⟨_,rfl⟩;rw[<-hW3]at heq3 hge3 hgl3 ⊢;have h1:=x0i hwl3 i3 (k+1);have h2:W3 / vN<g3:=by
         rw[Di hvpos]; omega
        have h3:g3-1=W3 / vN:=by
         have:=(Ez hvpos).2 hgl3;omega
        have h4:=Nat.div_add_mod' W3 vN;have h5:W3%vN<vN:=Dq _ hvpos;refine⟨W3%vN,by rw[h3]; omega,h5,?_⟩;have h6:g3*vN=(g3-1)*vN+vN:=by
         obtain⟨q,rfl⟩:∃q,g3=q+1:=⟨g3-1,by omega⟩;rw[Ci,Cf]
        rw[h3]at h6;omega
       obtain⟨R,hR1,hR2,hR3⟩:=hW3;have hfin:seg (u3.set (i3+k) ((T+cr)%4294967296)) i3 (k+1)=R:=by
        rw[M06 rfl (by omega)];have hL:l3.getD (i3+k) 0=T:=by rw[<-hT']; exact(hout4 (i3+k) (by omega)).symm
        rw[L04,hL]at hR3;rw[q0x vN (Nat.le_of_eq hwv)]at hseg;exact M10 (x0i hwu3 i3 k) (by omega) hT hcr hR3 hseg
       refine hD3.next (by omega) hR1 hR2 (by omega) (hwu3.set (by omega)) (by simpa using hlu3) ?_ (j0y hfin (by omega));rw[t0d (by omega)];exact i0y λi _ hi=>(hout4 i (by omega)).trans (hout3 i (by omega))
     ·
       subst hl2;rw[hn1]at heq;simp only[Fl,At9,Dm,<-hW]at heq;have hgq:g=W / vN:=by
        rcases hcase with h|h
        . exact h
        exfalso; rw[h,Ci,Br]at heq; omega
       have hgm:g*vN=vN*(W / vN):=by rw[hgq,Br]
       rw[u32w (n:=(g:Int)) (by omega) (by omega),o0b];refine⟨⟨by omega,by omega⟩,by rw[w03]; omega,⟨w',i2,l',qd.set i2 g,rfl,hw7.le (Gx l8 l10),rfl,?_⟩,hme⟩;have hR:seg l' i2 (n+1)=W%vN:=by omega
       refine hD.next (by omega) (R:=W%vN) (by rw[<-hW]; omega) hWm hg32 hwl' hll' ?_ (j0y hR (by omega));exact i0y λi _ hi=>hout i (by omega)
 ·
   simp only[Du,Ac]at hp;obtain rfl:j=0:=by omega
   have heq:=hD.eq;have hlt0:=hD.lt;rw[Am,Eo,Ea,Ge]at heq;obtain⟨hq1,hr1⟩:=N10 hX hvN hb0 heq hlt0;have hwq:j04 V12 (Sl.mk (some (Addr.mk b1 0 none)) (m-n) (m-n)) qd:=Ha hb1 (by omega) (An9 _) hD.wq;have hwr:j04 V13 (Sl.mk (some (Addr.mk b2 0 none)) m m) u:=Ha hb2 (by omega) (An9 _) hwu;refine⟨⟨by omega,by omega,by omega⟩,(z05 (j04.le l13 hwq) (by omega)).mono λv V14 l14 ⟨q,hv,hq⟩=>⟨q,hv,?_⟩⟩;have hwr2:j04 V14 (Sl.mk (some (Addr.mk b2 0 none)) n m) (u.take n):=j04.le l14 (j04.pre hwr (k:=n) (c:=m) (by omega) (by omega));have hl50:(u.take n).length<=2^50:=by rw[Dk]; omega
   have hz:Int.toNat 0=0:=rfl;have hm0:¬m=0:=by omega
   have hadd:Option.map (λq=>Addr.add q 0) (some (Addr.mk b2 0 none))=some (Addr.mk b2 0 none):=by simp[Addr.add]
   simp only[hz,hm0,At9,Cy,hadd,Ge,<-hn];have htr:=z05 hwr2 hl50;refine htr.mono λv V15 l15 ⟨r,hv,hr⟩=>⟨r,hv,?_⟩;rw[<-t0t]at hr;have hrw:wn (seg u 0 n)<=2^44:=by
    have:=A07 (x0i hwu 0 n);omega
   refine(E0q hr hrw (by omega)).mono λv V16 l16 ⟨r2,hv,hr2⟩=>⟨r2,hv,q,r2,rfl,?_,?_⟩
   . rw[<-hq1,k0e (by omega)]; exact hq.le (Gx l15 l16)
   rw[<-hr1]; exact hr2
