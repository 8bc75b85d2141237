/- Part. -/
import Derived.Test.YtjadnpidefnpoaaGreatPartD
import Derived.Laws.StructEq
namespace Go.Proofs.YtjadnpidefnpoaaGreat
open Go Go.Vc Go.Proofs
open Go.Proofs.Tryz (prog)
open Go.IntKind (i64 u64 u32 u8)
def quo(n d:Nat)(l:Int):Nat:=n*2^(max (-l) 0).toNat / (d*2^(max l 0).toNat)
theorem c12(a b:Int):(if a>b then a else b)=max a b:=by split<;>omega
theorem u13{t:Nat}(h:t<=2045)(h':t≠2045):t*2^52+2^53<infR:=by unfold infR; omega
theorem w13{t m:Nat}(h:t<=2045)(hm:m<=2^53)(h':m≠2^53):t*2^52+m<infR:=by unfold infR; omega
theorem j11{L:Int}{t:Nat}(h:(t:Int)=L+1074)(h2:L≠971):t≠2045:=by omega
theorem X0t{L:Int}{t:Nat}(h:(t:Int)=L+1074)(h2:t<=2045) : -1074<=L/\L<=2^40:=by omega
structure Rnd (way:Int) (r n d:Nat):Prop where
 down:way=0->P07 r n d
 up:way=1->IsUp r n d
 any:P07 r n d\/IsUp r n d
theorem Z0m{V:View}{sn sd:Sl}{n d:Nat}(way:Int)(hn:x02 V sn n)(hd:x02 V sd d)(d0:0<d)(zn:bl n<=2^30)(zd:bl d<=2^30) :
 a00 prog a0e #[(w0c.mk 53 (-1074) 1023).val,sn.v,sd.v,.int .i64 way] V λv _=>∃r:Nat,v = .float .f64 r/\Rnd way r n d:=by
 have wn44:wn n<=2^43:=j0k (by omega);have wd44:wn d<=2^43:=j0k (by omega);refine O0n (w0c.mk 53 (-1074) 1023) sn sd way V _ (λ_ x _=>Mag n d x.t9 /\ -(2^31:Int)<=x.t9/\x.t9<=2^31)
  (λc x _=>∃i:Nat,x.t82=i/\i<=c.t80.len/\x.t14=((wval ((dig (quo n d c.t10)).take i):Nat):Int)) (λc x _=>(c.t81-x.t82).toNat)
  (λc x _=>∃m r t:Nat,x.t14=m/\m<=2^53/\(t:Int)=c.t10+1074/\t<=2045/\r=t*2^52+m/\rm r=m*2^t/\Rnd way r n d)
  (λc _ _=>∃m r t:Nat,c.t14=m/\m<=2^53/\(t:Int)=c.t10+1074/\t<=2045/\r<infR/\r=t*2^52+m/\rm r=m*2^t/\Rnd way r n d) ?_
 refine⟨λh0 => ?_,λh0 => ?_⟩
 . have hl:sn.len=0:=by have:(sn.len:Int)=0:=(by simpa using h0); omega
   have n0:n=0:=hn.len_zero.1 hl;subst n0;refine⟨0,rfl,λ_=>P07.zero d0,λ_=>IsUp.zero _,.inr (IsUp.zero _)⟩
 have hl:sn.len≠0:=by have:¬(sn.len:Int)=0:=(by simpa using h0); omega
 have n0:n≠0:=λe=>hl (hn.len_zero.2 e)
 refine(I0i hn (Ah wn44 (by decide))).mono λv V1 l1 hv=>⟨_,hv,?_⟩;refine(I0i (hd.le l1) (Ah wd44 (by decide))).mono λv V2 l2 hv=>⟨_,hv,?_⟩;have hn2:=hn.le (Gx l1 l2);have hd2:=hd.le (Gx l1 l2);have w0:i64.wrap ((bl n:Nat)-(bl d:Nat):Int)=(bl n:Int)-bl d:=i64w (by omega) (by omega);have w1:i64.wrap (0-((bl n:Int)-bl d))=(bl d:Int)-bl n:=by rw[i64w (by omega) (by omega)]; omega
 rw[w0,w1,c12,c12];obtain⟨A,hA⟩:∃A:Nat,(A:Int)=max 0 ((bl d:Int)-bl n):=⟨(max 0 ((bl d:Int)-bl n)).toNat,by omega⟩;obtain⟨B,hB⟩:∃B:Nat,(B:Int)=max 0 ((bl n:Int)-bl d):=⟨(max 0 ((bl n:Int)-bl d)).toNat,by omega⟩;rw[<-hA,<-hB];have hmag:=k0n (n:=n) (d:=d) (x:=bl n) (y:=bl d) (A:=A) (B:=B) (T0i n0) (S0i n) (T0i (by omega)) (S0i d) (d0k n0) (d0k (by omega)) (by omega);refine⟨?_,?_⟩
 . refine(G05 hn2 (Ah wn44 (by decide)) (by omega)).mono λv V4 l4 ⟨s1,hv,hs1⟩=>⟨s1,hv,?_⟩;refine(G05 (hd2.le l4) (Ah wd44 (by decide)) (by omega)).mono λv V5 l5 ⟨s2,hv,hs2⟩=>⟨s2,hv,?_⟩;have wb:wn (n*2^A)<=2^50:=j0k (by
    have a1:=y0i n (2^A);have a2:=U0a A;omega)
   refine(O09 (hs1.le l5) hs2 wb).mono λv V6 l6 hv=>⟨_,hv,λhc => ?_,λhc => ?_⟩
   . simp only[Af]at hc;have lt:n*2^A<d*2^B:=by
      rcases Ad (n*2^A) (d*2^B)with g|g
      . exact g
      exfalso; rw[if_neg (by omega)]at hc; split at hc<;>omega
     have e:i64.wrap ((bl n:Int)-bl d-1)=(B:Int)-A-1:=by rw[i64w (by omega) (by omega)]; omega
     show Mag n d (i64.wrap _)/\_<=(i64.wrap _:Int)/\(i64.wrap _:Int)<=_;rw[e]; exact⟨hmag.1 lt,by omega,by omega⟩
   simp only[Ac]at hc;have ge:d*2^B<=n*2^A:=by
    rcases Ad (n*2^A) (d*2^B)with g|g
    . exfalso; rw[if_pos g]at hc; omega
    exact g
   have e:(bl n:Int)-bl d=(B:Int)-A:=by omega
   show Mag n d ((bl n:Int)-bl d)/\_<=((bl n:Int)-bl d)/\((bl n:Int)-bl d)<=_;rw[e]; exact⟨hmag.2 ge,by omega,by omega⟩
 rintro⟨e⟩ V3 l3 ⟨hM,he1,he2⟩;have hM:Mag n d e:=hM;have he1 : -(2^31:Int)<=e:=he1;have he2:e<=(2^31:Int):=he2;dsimp only;refine⟨λhc => ?_,λhc => ?_⟩
 . simp only[Af]at hc;have hov:=hM.over (by omega);have hrm:rm (infR-1)=(2^53-1)*2^2045:=s14 (r:=infR-1) (e:=2045) (by decide);refine⟨λhw=>⟨by omega,?_⟩,λhw => ?_⟩
   . have hw:way=0:=by simpa using hw
     have k1:u64.wrap (u64.wrap (1*2^(min (Int.toNat 53) (IntKind.bits .u64)))-1)=((2^53-1:Nat):Int):=by decide
     have k2:i64.wrap (i64.wrap (1023-53)+1)=971:=by decide
     rw[k1,k2];have k3:(971+1074:Int).toNat=2045:=by decide
     refine(O0m (n:=2^53-1) (r:=infR-1) (s:=971) (by omega) (by omega) (by omega) (by omega) (by decide) (by rw[k3]; exact hrm)).mono λv V7 _ hv=>⟨_,hv,_,rfl,?_⟩;have hD:P07 (infR-1) n d:=⟨by decide,Ah (Ag d (t0e.2 (by omega))) hov,.inl (by decide)⟩;exact⟨λ_=>hD,λh=>by omega,.inl hD⟩
   have hw:way≠0:=by simpa using hw
   refine m0y.mono λv V8 _ hv=>⟨_,hv,_,rfl,?_⟩;have hU:IsUp infR n d:=⟨An9 _,.inl rfl,.inr (Cm (Bh (j0q (by decide)) d0) hov)⟩;exact⟨λh=>absurd h hw,λ_=>hU,.inr hU⟩
 simp only[Ac]at hc;have k0:i64.wrap (i64.wrap (e-53)+1)=e-52:=by
  rw[i64w (n:=e-53) (by omega) (by omega),i64w (by omega) (by omega)]; omega
 obtain⟨L,hL⟩:∃L,L=max (e-52) (-1074):=⟨_,rfl⟩;have kL:(if(-1074:Int)>e-52 then(-1074:Int)else e-52)=L:=by split<;>omega
 rw[k0,kL];have k1:i64.wrap (0-L) = -L:=by rw[i64w (by omega) (by omega)]; omega
 rw[k1];obtain⟨a,ha⟩:∃a:Nat,(a:Int)=max (-L) 0:=⟨(max (-L) 0).toNat,by omega⟩;obtain⟨b,hb⟩:∃b:Nat,(b:Int)=max L 0:=⟨(max L 0).toNat,by omega⟩;obtain⟨t,ht⟩:∃t:Nat,(t:Int)=L+1074:=⟨(L+1074).toNat,by omega⟩;have kb:(if(0:Int)>L then(0:Int)else L)=(b:Int):=by split<;>omega
 have ka:(if(0:Int) > -L then(0:Int)else -L)=(a:Int):=by split<;>omega
 rw[kb,ka];have hquo:quo n d L=n*2^a / (d*2^b):=by
  unfold quo;have e1:(max (-L) 0).toNat=a:=by omega
  have e2:(max L 0).toNat=b:=by omega
  rw[e1,e2]
 obtain⟨hq53,hq52,ht5,hr0,hdown,hup0,hup1,hr1⟩:=M0h d0 hM (by omega) hL ha hb rfl ht;rw[<-hquo]at hq53 hq52 hr0 hdown hup0 hup1 hr1;have bn:bl (n*2^a)<=2^31:=by
  have a1:=y0i n (2^a);have a2:=U0a a;omega
 have bd:bl (d*2^b)<=2^31:=by
  have a1:=y0i d (2^b);have a2:=U0a b;omega
 have hub:0<d*2^b:=Nat.mul_pos d0 (x0e b);refine(G05 (hd2.le l3) (Ah wd44 (by decide)) (by omega)).mono λv V9 l9 ⟨u,hv,hu⟩=>⟨u,hv,?_⟩;refine(G05 (hn2.le (Gx l3 l9)) (Ah wn44 (by decide)) (by omega)).mono λv V10 l10 ⟨s,hv,hs⟩=>⟨s,hv,?_⟩;refine(Q09 hs (hu.le l10) (j0k (by omega)) (by omega)).mono λv V11 l11 ⟨q,r,hv,hq,hr⟩=>⟨q,r,hv,⟨0,rfl,by omega,by simp[wval]⟩,?_⟩;rw[<-hquo]at hq;generalize hQ:quo n d L=Q at hq53 hq52 hr0 hdown hup0 hup1 hr1 hq;have hql:q.len=(dig Q).length:=hq.len;have hq2:q.len<=2:=by
  have:wn Q<=2:=j0k (by have:bl Q<=53:=k02 hq53; omega);simp only[wn]at this; omega
 rintro⟨y,i'⟩ V12 l12 ⟨i,hi,hil,hy⟩;have hi:i'=(i:Int):=hi;have hil:i<=q.len:=hil;have hy:y=((wval ((dig Q).take i):Nat):Int):=hy;subst hi; subst hy;dsimp only;have hwl:∀j,j<=q.len->wval ((dig Q).take j)<4294967296^j:=by
  intro j hj;have:=b0k (l:=(dig Q).take j) (λd hd=>L08 Q d (List.mem_of_mem_take hd));rw[Dk,Cj (by omega)]at this;exact this
 refine⟨λhlt => ?_,λhge => ?_⟩
 . simp only[Af]at hlt;have hi':i<q.len:=by omega
   have w32:i64.wrap (32*(i:Int))=((32*i:Nat):Int):=by rw[i64w (by omega) (by omega)]; omega
   rw[w32];refine⟨⟨by omega,by omega,hq.isSome (by omega)⟩,_,(hq.le l12).get (by omega) (by omega),by omega,?_⟩;rw[Aa,Aa];have hg:=(L08 Q).getD i;generalize hwd:(dig Q).getD i 0=w at hg;have hyl:=hwl i (by omega);have hyl2:=hwl (i+1) (by omega);rw[s02,hwd]at hyl2;generalize hyy:wval ((dig Q).take i)=y at hyl hyl2;have e4:4294967296^i=2^(32*i):=by rw[show(4294967296:Nat)=2^32 from rfl,<-Nat.pow_mul]
   have hmin:min (32*i) u64.bits=32*i:=Cj (by show 32*i<=64; omega);have hpow:(2:Int)^(32*i)=((2^(32*i):Nat):Int):=by rw[Int.natCast_pow]; rfl
   have hle:4294967296^(i+1)<=18446744073709551616:=by
    have:4294967296^(i+1)<=4294967296^2:=Ar (by omega) (by omega);omega
   have hor:=Dt (i:=32*i) (b:=y) (by rw[<-e4]; exact hyl) w;rw[<-e4]at hor;have hval:u64.wrap (BitVec.toNat ((BitVec.ofInt u64.bits (y:Int)) ||| (BitVec.ofInt u64.bits (u64.wrap ((u64.wrap (w:Int))*2^(min (32*i) (IntKind.bits .u64)))))))=((y+w*4294967296^i:Nat):Int):=by
    have hw64:w*4294967296^i<2^64:=by omega
    rw[hmin,hpow,<-e4,y0d (y:=w) (by omega),<-Cc,y0d hw64,p0y (by omega) hw64];congr 1;rw[Nat.or_comm,Br w,<-hor]; omega
   rw[hval];refine⟨⟨i+1,?_,by show i+1<=q.len; omega,?_⟩,?_⟩
   . show i64.wrap ((i:Int)+1)=((i+1:Nat):Int);rw[i64w (by omega) (by omega)]; omega
   . show((y+w*4294967296^i:Nat):Int)=((wval ((dig Q).take (i+1)):Nat):Int);rw[s02,hwd,hyy]
   show((q.len:Int)-i64.wrap ((i:Int)+1)).toNat<((q.len:Int)-(i:Int)).toNat;rw[i64w (by omega) (by omega)]; omega
 simp only[Ac]at hge;have hiq:wval ((dig Q).take i)=Q:=by rw[D03 (by omega),i04]
 rw[hiq];have hr12:=hr.le l12;have hrb:n*2^a%(d*2^b)<d*2^b:=Dq _ hub;have hwr:wn (n*2^a%(d*2^b))<=2^43:=Ah (a0g (Fj hrb)) (j0k (by omega));refine(G05 (n:=1) hr12 (Ah hwr (by decide)) (by omega)).mono λv V13 l13 ⟨s2,hv,hs2⟩=>⟨s2,hv,?_⟩;have hw2:wn (n*2^a%(d*2^b)*2^1)<=2^50:=by
  have:=j0e (n*2^a%(d*2^b)) (2^1);have:wn (2^1)<=2^43:=wn64 (by omega);omega
 refine(O09 hs2 (hu.le (Gx l10 (Gx l11 (Gx l12 l13)))) hw2).mono λv V14 l14 hv=>⟨_,hv,?_⟩;have hrz:r.len=0↔n*2^a%(d*2^b)=0:=hr.len_zero;have qs:Rnd way (t*2^52+Q) n d->(∃m r t':Nat,(Q:Int)=m/\m<=2^53/\(t':Int)=L+1074/\t'<=2045/\r=t'*2^52+m/\rm r=m*2^t'/\Rnd way r n d) :=
  λh=>⟨Q,_,t,rfl,by omega,ht,ht5,rfl,hr0,h⟩
 have ps:Rnd way (t*2^52+Q+1) n d->(∃m r t':Nat,u64.wrap ((Q:Int)+1)=m/\m<=2^53/\(t':Int)=L+1074/\t'<=2045/\r=t'*2^52+m/\rm r=m*2^t'/\Rnd way r n d) :=
  λh=>⟨Q+1,t*2^52+Q+1,t,by rw[u64w (by omega) (by omega)]; omega,by omega,ht,ht5,by omega,hr1,h⟩
 have notup:way≠1->Rnd way (t*2^52+Q) n d:=λh=>⟨λ_=>hdown,λe=>absurd e h,.inl hdown⟩
 have near:way≠1->way≠0->Rnd way (t*2^52+Q+1) n d\/n*2^a%(d*2^b)=0:=by
  intro h h';by_cases z:n*2^a%(d*2^b)=0
  . exact .inr z
  exact .inl ⟨λe=>absurd e h',λe=>absurd e h,.inr (hup1 z)⟩
 refine⟨⟨λhw => ?_,λhw => ?_⟩,?_⟩
 . have hw:way=1:=by simpa using hw
   refine⟨λhz => ?_,λhz => ?_⟩
   . simp only[Af]at hz;have z:n*2^a%(d*2^b)≠0:=λz=>by have:=hrz.2 z; rw[this]at hz; simp at hz
     exact ps ⟨λh=>absurd (h.symm.trans hw:(0:Int)=1) (by decide),λ_=>hup1 z,.inr (hup1 z)⟩
   simp only[Ac]at hz;have z0:r.len=0:=by generalize r.len=k at hz; omega
   have z:=hrz.1 z0;have g:=qs ⟨λh=>absurd (h.symm.trans hw:(0:Int)=1) (by decide),λ_=>hup0 z,.inl hdown⟩;refine⟨λh => ?_,λ_=>g⟩;have h:way=2:=by simpa using h
   exact absurd (h.symm.trans hw:(2:Int)=1) (by decide)
 . have hw:way≠1:=by simpa using hw
   have g:=qs (notup hw);refine⟨λh2 => ?_,λ_=>g⟩;have h2:way=2:=by simpa using h2
   have h20:way≠0:=λe=>absurd (h2.symm.trans e:(2:Int)=0) (by decide)
   have pz:n*2^a%(d*2^b)≠0->(∃m r t':Nat,u64.wrap ((Q:Int)+1)=m/\m<=2^53/\(t':Int)=L+1074/\t'<=2045/\r=t'*2^52+m/\rm r=m*2^t'/\Rnd way r n d) :=
    λz=>ps ⟨λe=>absurd e h20,λe=>absurd e hw,.inr (hup1 z)⟩
   have cmpz:n*2^a%(d*2^b)=0->(if n*2^a%(d*2^b)*2^1<d*2^b then(-1:Int)else if n*2^a%(d*2^b)*2^1=d*2^b then 0 else 1) = -1:=by
    intro z; rw[z,Cy,if_pos hub]
   refine⟨λh3=>pz λz => ?_,λh3=>⟨λh4=>⟨λh5=>pz λz => ?_,λ_=>g⟩,λ_=>g⟩⟩
   . rw[cmpz z]at h3; simp at h3
   rw[cmpz z]at h4; simp at h4
 rintro⟨x⟩ V15 l15 ⟨m,r,t',hx,hm,ht',ht5',hr',hrm',hR⟩;have hx:x=(m:Int):=hx;subst hx;dsimp only at ht' ⊢;have htt:t'=t:=by have e:=ht'.trans ht.symm; exact Ft e
 subst htt;have k53:u64.wrap (1*2^(min (Int.toNat 53) (IntKind.bits .u64)))=((2^53:Nat):Int):=by decide
 have k971:i64.wrap (i64.wrap (1023-53)+1)=971:=by decide
 rw[k53,k971];refine⟨⟨by omega,λh1=>⟨λh2 => ?_,λh2 => ?_⟩,λh1 => ?_⟩,?_⟩
 . have h1:m=2^53:=Ft (by simpa using h1);have h2:L=971:=by simpa using h2
   have hri:r=infR:=by
    rw[hr',h1];have:t'=2045:=by rw[h2]at ht'; exact Ft ht'
    rw[this]; decide
   refine m0y.mono λv V17 _ hv=>⟨_,hv,r,by rw[hri],hR⟩
 . have h1:m=2^53:=Ft (by simpa using h1);have h2:L≠971:=by simpa using h2
   refine⟨m,r,t',rfl,hm,ht',ht5',?_,hr',hrm',hR⟩;rw[hr',h1];exact u13 ht5' (j11 ht' h2)
 . have h1:m≠2^53:=λe=>by rw[e]at h1; simp at h1
   refine⟨m,r,t',rfl,hm,ht',ht5',?_,hr',hrm',hR⟩;rw[hr'];exact w13 ht5' hm h1
 rintro _ V16 l16 ⟨m',r',t2,hm1,hm2,ht2,ht3,hri,hre,hrm2,hR2⟩;have hm1:(m:Int)=m':=hm1;have hmm:m=m':=Ft hm1;subst hmm;have ht2:(t2:Int)=L+1074:=ht2;by_cases m0:m=0
 . subst m0;have r0:r'=0:=k14 (by rw[hrm2,Cy,o0k]);refine S0v.mono λv V18 _ hv=>⟨_,hv,r',by rw[r0],hR2⟩
 refine(O0m (n:=m) (s:=L) (r:=r') m0 hm2 (X0t ht2 ht3).1 (X0t ht2 ht3).2 hri ?_).mono λv V18 _ hv=>⟨_,hv,r',rfl,hR2⟩;rw[<-ht2,Aa]; exact hrm2
theorem U0q(r:Nat):m07 (r:Int)=r:=by unfold m07; rw[if_neg (by omega)]; omega
theorem M0y{r:Nat}(h:0<r):m07 (-(r:Int))=2^63+r:=by unfold m07; rw[if_pos (by omega)]; omega
theorem X0v{V:View}{sn sd:Sl}{n d:Nat}{w:Int}{R:Nat->Prop}(_:n≠0)(_:0<d)
 (h:a00 prog a0e #[(w0c.mk 53 (-1074) 1023).val,sn.v,sd.v,.int .i64 w] V λv _=>∃r:Nat,v = .float .f64 r/\(P07 r n d\/IsUp r n d)/\R r) {Q:Value->View->Prop}
 (k:∀r V',R r->r<=infR->(0<r->Q (.float .f64 (2^63+r)) V')/\(r=0->Q (.float .f64 0) V')) :
 a00 prog a0e #[(w0c.mk 53 (-1074) 1023).val,sn.v,sd.v,.int .i64 w] V λv V2=>∃r2:Nat,v = .float .f64 r2 /\
  ((FloatKind.f64.format.order r2 0 != some .eq)=true->Q (.float .f64 (Op.negFloat .f64 r2)) V2)/\((FloatKind.f64.format.order r2 0 != some .eq)=false->Q (.float .f64 0) V2):=by
 refine h.mono λv V2 _ ⟨r,hv,hd,hR⟩=>⟨r,hv,?_⟩;have hr:r<=infR:=by
  rcases hd with h|h
  . exact Fj h.lt
  exact h.le
 have hr63:r<2^63:=by unfold infR at hr; omega
 have hok:okW r:=⟨by omega,by rw[Bx9 hr63]; exact hr⟩;have hkey:key r=(r:Int):=L0q hr63;have k0:key 0=0:=by decide
 have e:(FloatKind.f64.format.order r 0 != some .eq) = !decide ((r:Int)=0):=by
  show(!(FloatKind.f64.format.order r 0==some .eq))=_;rw[E0x hok (by decide),hkey,k0]
 rw[e];obtain⟨k1,k2⟩:=k r V2 hR hr;refine⟨λh1 => ?_,λh1 => ?_⟩
 . have h1:r≠0:=λc=>by subst c; simp at h1
   rw[w0d (by omega),if_pos hr63,Gb];exact k1 (by omega)
 have h1:r=0:=by
   by_cases c:r=0
   . exact c
   rw[Ao (by omega)]at h1; simp at h1
 exact k2 h1
theorem L0k{V:View}{x:WhV}{s:Sl}{A:Int}{D:Nat}{way:Int}(hw:way=0\/way=1)(hx:d07 V x A)(hs:x02 V s D)(D0:0<D)(zA:bl A.natAbs<=2^30)(zD:bl D<=2^30) :
 a00 prog D0n #[(w0c.mk 53 (-1074) 1023).val,x.val,s.v,.int .i64 way] V λv _ =>
  v = .float .f64 (m07 (if 0<=A then(if way=0 then(w0k A.natAbs D:Int)else(upK A.natAbs D:Int))else(if way=0 then -(upK A.natAbs D:Int)else -(w0k A.natAbs D:Int)))):=by
 refine A0l (w0c.mk 53 (-1074) 1023) x s way V _ ⟨λh => ?_,λh => ?_⟩
 . have hA:0<=A:=by rw[hx.1]at h; simpa using h
   refine(Z0m way hx.2 hs D0 zA zD).mono λv V1 _ ⟨r,hv,hR⟩=>⟨r,hv,?_⟩;rw[if_pos hA];rcases hw with rfl|rfl
   . rw[if_pos rfl,(hR.down rfl).unique D0 (T0a D0),U0q]
   rw[if_neg (by decide),(hR.up rfl).unique D0 (d0f D0),U0q]
 have hA:A<0:=by rw[hx.1]at h; simpa using h
 have n0:A.natAbs≠0:=by omega
 have hnA:¬0<=A:=by omega
 refine⟨λ_ => ?_,λh2 => ?_⟩
 . have hw2:i64.wrap (1-way)=1-way:=i64w (by omega) (by omega);rw[hw2,if_neg hnA];refine X0v (Q:=λv _=>v = .float .f64 (m07 (if way=0 then -(upK A.natAbs D:Int)else -(w0k A.natAbs D:Int)))) (R:=λr=>Rnd (1-way) r A.natAbs D) n0 D0 ((Z0m (1-way) hx.2 hs D0 zA zD).mono λv V1 _ ⟨r,hv,hR⟩=>⟨r,hv,hR.any,hR⟩) λr V' hR hr => ?_
   have hrv:(r:Int)=if way=0 then(upK A.natAbs D:Int)else(w0k A.natAbs D:Int):=by
    rcases hw with rfl|rfl
    . rw[if_pos rfl,(hR.up (by decide)).unique D0 (d0f D0)]
    rw[if_neg (by decide),(hR.down (by decide)).unique D0 (T0a D0)]
   have e:(if way=0 then -(upK A.natAbs D:Int)else -(w0k A.natAbs D:Int)) = -(r:Int):=by
    rw[hrv]; split<;>rfl
   rw[e];refine⟨λh0 => ?_,λh0 => ?_⟩
   . rw[M0y h0]
   rw[h0]; rfl
 exfalso;have h2:way=2:=by simpa using h2
 omega
theorem Y0t(z:Cq):z.re.num*(z.D:Int)=z.A*(z.re.den:Int):=by
 have h:=z.canon.rep;have h1:((z.re.num:Int):Rat) / ((z.re.den:Nat):Rat)=(z.A:Rat) / (z.D:Rat):=by
  rw[<-h.re,<-Fa]; exact Rat.mkRat_self z.re
 exact(x03 z.re.den_nz h.pos).1 h1
theorem F0o(z:Cq):0<=z.A↔0<=z.re.num:=by
 have h:=Y0t z;have h1:(0:Int)<(z.D:Int):=by have:=z.canon.rep.pos; omega
 have h2:(0:Int)<(z.re.den:Int):=by have:=z.re.den_nz; omega
 constructor
 . intro g;refine Int.not_lt.1 λc => ?_;have a:=Fq c h1;have b:=Int.mul_nonneg g (Int.le_of_lt h2);omega
 intro g;refine Int.not_lt.1 λc => ?_;have a:=Fq c h2;have b:=Int.mul_nonneg g (Int.le_of_lt h1);omega
theorem d12(z:Cq):z.A.natAbs*z.re.den=z.re.num.natAbs*z.D:=by
 have h:=Ck Int.natAbs (Y0t z);rw[Dn,Dn,Bf,Bf]at h;exact h.symm
theorem N0y(z:Cq):w0k z.A.natAbs z.D=w0k z.re.num.natAbs z.re.den:=by
 have d1:0<z.D:=by have:=z.canon.rep.pos; omega
 have d2:0<z.re.den:=by have:=z.re.den_nz; omega
 exact((T0a d1).congr d1 d2 (d12 z)).unique d2 (T0a d2)
theorem d15(z:Cq):upK z.A.natAbs z.D=upK z.re.num.natAbs z.re.den:=by
 have d1:0<z.D:=by have:=z.canon.rep.pos; omega
 have d2:0<z.re.den:=by have:=z.re.den_nz; omega
 exact((d0f d1).congr d1 d2 (d12 z)).unique d2 (d0f d2)
theorem M0k{V:View}:a00 prog C0p #[] V λv _=>v=(w0c.mk 53 (-1074) 1023).val:=L0n V _ rfl
theorem Y0v{V:View}{x:NumV}{z:Cq}(hx:Q00 V x z)(hz:z.sz<=2^30):a00 prog P0r #[x.val] V λv _=>v = .float .f64 (m07 (E0m z.re)):=by
 have zA:=z.szA; have zD:=z.szD;refine O0p x V _ (M0k.mono λv V1 l1 hv=>⟨_,hv,(d03 (hx.le l1)).mono λv V2 l2 ⟨s,hv,hs⟩=>⟨s,hv,?_⟩⟩);refine(L0k (way:=0) (.inl rfl) ((hx.le (Gx l1 l2)).re) hs (by have:=z.canon.rep.pos; omega) (by omega) (by omega)).mono λv V3 _ hv=>⟨_,hv,?_⟩;unfold E0m;rw[N0y z,d15 z];by_cases c:0<=z.A
 . rw[if_pos c,if_pos ((F0o z).1 c),if_pos rfl]
 rw[if_neg c,if_neg (λg=>c ((F0o z).2 g)),if_pos rfl]
theorem a0n{V:View}{x:NumV}{z:Cq}(hx:Q00 V x z)(hz:z.sz<=2^30):a00 prog Q0r #[x.val] V λv _=>v = .float .f64 (m07 (F0m z.re)):=by
 have zA:=z.szA; have zD:=z.szD;refine P0p x V _ (M0k.mono λv V1 l1 hv=>⟨_,hv,(d03 (hx.le l1)).mono λv V2 l2 ⟨s,hv,hs⟩=>⟨s,hv,?_⟩⟩);refine(L0k (way:=1) (.inr rfl) ((hx.le (Gx l1 l2)).re) hs (by have:=z.canon.rep.pos; omega) (by omega) (by omega)).mono λv V3 _ hv=>⟨_,hv,?_⟩;unfold F0m;rw[N0y z,d15 z];by_cases c:0<=z.A
 . rw[if_pos c,if_pos ((F0o z).1 c),if_neg (by decide)]
 rw[if_neg c,if_neg (λg=>c ((F0o z).2 g)),if_neg (by decide)]
theorem m0n(a b:Rat):(⟨a,0⟩:Cq)*⟨b,0⟩=⟨a*b,0⟩:=Hb (by rw[F01]; grind) (by rw[G01]; grind)
theorem n0n(a b:Rat):(⟨a,0⟩:Cq)+⟨b,0⟩=⟨a+b,0⟩:=Hb (by rw[P01]) (by rw[Q01]; grind)
theorem o0n(a:Rat) : -(⟨a,0⟩:Cq)=⟨-a,0⟩:=Hb (by rw[G07]) (by rw[H07]; grind)
theorem e15(x:Nat):fq x=fkq (key x):=rfl
theorem A13:fq 0=0:=by
 unfold fq;have:kz (key 0)=0:=by decide
 rw[this]; rw[Bm]; exact Rat.zero_mul _
structure BdAt (V:View) (b:BdV) (e:Eb):Prop where
 inf:b.inf=e.inf
 num:Q00 V b.x e.num
 ok:e.ok
theorem BdAt.le{V V':View}{b:BdV}{e:Eb}(hle:V.le V')(h:BdAt V b e):BdAt V' b e:=⟨h.inf,h.num.le hle,h.ok⟩
theorem BdAt.range{V:View}{b:BdV}{e:Eb}(h:BdAt V b e):e.inf=0\/e.inf=1\/e.inf = -1:=by
 rcases h.ok with h|⟨_,h⟩
 . exact .inl h
 exact .inr h
theorem BdAt.zero(V:View):BdAt V (BdV.mk 0 (NumV.mk (WhV.mk false (Sl.mk none 0 0)) (WhV.mk false (Sl.mk none 0 0)) (Sl.mk none 0 0))) (Eb.fin 0):=⟨rfl,Q00.zero V,.inl rfl⟩
theorem BdAt.infty(V:View){i:Int}(h:i=1\/i = -1):BdAt V (BdV.mk i (NumV.mk (WhV.mk false (Sl.mk none 0 0)) (WhV.mk false (Sl.mk none 0 0)) (Sl.mk none 0 0))) ⟨i,0⟩:=⟨rfl,Q00.zero V,.inr ⟨rfl,h⟩⟩
theorem BdAt.signs(V:View){i:Int}(h:(⟨i,0⟩:Eb).ok):BdAt V (BdV.mk i (NumV.mk (WhV.mk false (Sl.mk none 0 0)) (WhV.mk false (Sl.mk none 0 0)) (Sl.mk none 0 0))) ⟨i,0⟩:=⟨rfl,Q00.zero V,h⟩
theorem O0y{r:Nat}(h:r<=infR):rm r<2^2099:=by
 have h1:rm r<=rm infR:=t0e.2 h;obtain⟨e,he⟩:∃e,e=2046:=⟨_,rfl⟩;rw[k0o he]at h1;exact Cs9 h1 (G0x (a:=52+e) (b:=2099) (by omega))
theorem P0y(D:Nat):(0:Rat)=((0:Int):Rat) / (D:Rat):=by simp[Bm]
theorem g15{k:Int}(h:inK k):(⟨fkq k,0⟩:Cq).sz<=2100:=by
 have R:Rep ⟨fkq k,0⟩ (kz k) 0 (2^1074):=⟨w0y,rfl,P0y _⟩;have hk:(kz k).natAbs=rm k.natAbs:=by unfold kz; split<;>omega
 refine R.sz ?_ (by simp[l0e]) ?_
 . rw[hk];have h2:k.natAbs<=infR:=by unfold inK at h; omega
   have:=k02 (O0y h2);omega
 have:=U0a 1074; omega
theorem Q0y{k:Int}(h:inK k):(endE k).num.sz<=2100:=by
 have z:(Cq.zero).sz<=2100:=Ah K06 (by omega);unfold endE Eb.num;split
 . exact z
 split
 . exact z
 exact g15 h
theorem M0s{V:View}{x:Nat}(h:finW x):a00 prog W0r #[.float .f64 x] V λv V'=>∃r:NumV,v=r.val/\Q00 V' r ⟨fkq (key x),0⟩:=by
 refine Q0p x V _ ((M0q (c:=CxV.mk x 0) h (show finW 0 from⟨by decide,by decide⟩)).mono λv V1 _ ⟨r,hv,hr⟩=>⟨r,0,hv,r,rfl,?_⟩);have hr:Q00 V1 r ⟨fq x,fq 0⟩:=hr;rw[A13,e15]at hr; exact hr
theorem Z0t{V:View}{x:Nat}(h:okW x):a00 prog a0x #[.float .f64 x] V λv V'=>∃b:BdV,v=b.val/\BdAt V' b (endE (key x)):=by
 have hk:=l0y h;refine A0v x V _ ((P10 h.1).mono λv V1 _ hv=>⟨_,hv,λhc => ?_,λhc => ?_⟩)
 . have hc:key x=(infR:Int):=by simp only[Af]at hc; exact hc.2
   refine⟨_,rfl,?_⟩;unfold endE; rw[if_pos hc]; exact .infty V1 (.inl rfl)
 have hc:key x≠(infR:Int):=by simp only[Ac]at hc; exact λe=>hc ⟨h,e⟩
 refine(Q0v h.1).mono λv V2 _ hv=>⟨_,hv,λhd => ?_,λhd => ?_⟩
 . have hd:key x = -(infR:Int):=by simp only[Af]at hd; exact hd.2
   refine⟨_,rfl,?_⟩;unfold endE; rw[if_neg hc,if_pos hd]; exact .infty V2 (.inr rfl)
 have hd:key x ≠ -(infR:Int):=by simp only[Ac]at hd; exact λe=>hd ⟨h,e⟩
 have hf:finW x:=by
  refine⟨h.1,?_⟩;have a:=g0o h.1;have:(key x).natAbs<infR:=by omega
  omega
 refine(M0s hf).mono λv V3 _ ⟨r,hv,hr⟩=>⟨r,hv,_,rfl,?_⟩;unfold endE; rw[if_neg hc,if_neg hd]; exact⟨rfl,hr,.inl rfl⟩
theorem J0i{V:View}(a b:Int):a00 prog D0g #[.int .i64 a,.int .i64 b] V λv _=>v = .int .i64 (cmpZ a b):=by
 have nan:∀ {V:View} (a:Int),a00 prog P0i #[.int .i64 a] V λv _=>v = .bool false:=λa=>E0h a _ _ (by simp)
 refine W0f a b V _ ((nan a).mono λv V1 _ hv=>⟨_,hv,(nan b).mono λv V2 _ hv=>⟨_,hv,λh=>absurd h (by simp),λ_=>⟨λh=>absurd h (by simp),λ_=>⟨λh => ?_,λh=>⟨λh' => ?_,λh' => ?_⟩⟩⟩⟩⟩)
 . rw[t0x (by simpa using h)]
 . rw[w0x (by simpa using h')]
 simp only[Ac]at h h';rw[u0x (by omega)]
theorem B13(x y:Rat):(⟨x,0⟩:Cq).cmp ⟨y,0⟩=cmpR x y:=by
 unfold Cq.cmp;dsimp only;by_cases c:cmpR x y=0
 . rw[c]; rw[if_neg (by simp)]; unfold cmpR; rw[if_neg (by grind),if_pos rfl]
 rw[if_pos c]
theorem G0f{V:View}{a b:BdV}{e f:Eb}(ha:BdAt V a e)(hb:BdAt V b f)(hz:e.num.sz<=2^40)(hw:f.num.sz<=2^40) :
 a00 prog K0r #[a.val,b.val] V λv _=>v = .int .i64 (e.cmp f):=by
 have ia:=ha.inf;have ib:=hb.inf;refine S0p a b V _ ⟨λh => ?_,λh=>⟨λh' => ?_,λh' => ?_⟩⟩
 . have h:e.inf≠0:=by rw[<-ia]; simpa using h
   refine(J0i a.inf b.inf).mono λv V1 _ hv=>⟨_,hv,?_⟩;unfold Eb.cmp; rw[if_pos (.inl h),ia,ib]
 . have h':f.inf≠0:=by rw[<-ib]; simpa using h'
   refine(J0i a.inf b.inf).mono λv V1 _ hv=>⟨_,hv,?_⟩;unfold Eb.cmp; rw[if_pos (.inr h'),ia,ib]
 have h:e.inf=0:=by rw[<-ia]; simpa using h
 have h':f.inf=0:=by rw[<-ib]; simpa using h'
 refine(N06 ha.num hb.num hz hw).mono λv V1 _ hv=>⟨_,hv,?_⟩;unfold Eb.cmp; rw[if_neg (by rw[h,h']; simp)];exact Ck _ (B13 e.x f.x)
theorem S0y:(Eb.fin 0).num.sz<=1:=K06
theorem F07{V:View}{a:BdV}{e:Eb}(ha:BdAt V a e)(hz:e.num.sz<=2^40):a00 prog Z0d #[a.val] V λv _=>v = .int .i64 e.sign :=
 Q0n a V _ ((G0f ha (BdAt.zero V) hz (Ah S0y (by decide))).mono λv V1 _ hv=>⟨_,hv,rfl⟩)
theorem H0l{V:View}{a:BdV}{e:Eb}(ha:BdAt V a e):a00 prog T0r #[a.val] V λv V'=>∃b:BdV,v=b.val/\BdAt V' b e.neg:=by
 refine T0p a V _ ((E0e ha.num).mono λv V1 _ ⟨r,hv,hr⟩=>⟨r,hv,_,rfl,?_⟩);have ia:=ha.inf;have hr':=ha.range;have e1:i64.wrap (0-a.inf) = -e.inf:=by rw[i64w (by omega) (by omega)]; omega
 refine⟨e1,?_,Eb.neg_ok ha.ok⟩;have : -e.num=e.neg.num:=o0n e.x;rw[<-this]; exact hr
theorem H0f{V:View}{a b:BdV}{e f:Eb}(ha:BdAt V a e)(hb:BdAt V b f)(hz:e.num.sz<=2^40)(hw:f.num.sz<=2^40) :
 a00 prog O0r #[a.val,b.val] V λv V'=>∃c:BdV,v=c.val/\BdAt V' c (e.add f):=by
 have ia:=ha.inf;have ib:=hb.inf;refine U0p a b V _ ⟨λh => ?_,λh=>⟨λh' => ?_,λh' => ?_⟩⟩
 . have h:e.inf≠0:=by rw[<-ia]; simpa using h
   refine⟨a,rfl,?_⟩;unfold Eb.add; rw[if_pos h]; exact ha
 . have h:e.inf=0:=by rw[<-ia]; simpa using h
   have h':f.inf≠0:=by rw[<-ib]; simpa using h'
   refine⟨b,rfl,?_⟩;unfold Eb.add; rw[if_neg (by rw[h]; simp),if_pos h']; exact hb
 have h:e.inf=0:=by rw[<-ia]; simpa using h
 have h':f.inf=0:=by rw[<-ib]; simpa using h'
 refine(J03 ha.num hb.num hz hw).mono λv V1 _ ⟨r,hv,hr⟩=>⟨r,hv,_,rfl,?_⟩;unfold Eb.add; rw[if_neg (by rw[h]; simp),if_neg (by rw[h']; simp)];refine⟨rfl,?_,.inl rfl⟩;have:e.num+f.num=(⟨0,e.x+f.x⟩:Eb).num:=n0n e.x f.x;rw[<-this]; exact hr
theorem I0f{V:View}{a b:BdV}{e f:Eb}(ha:BdAt V a e)(hb:BdAt V b f)(hz:e.num.sz<=2^40)(hw:f.num.sz<=2^40) :
 a00 prog N0r #[a.val,b.val] V λv V'=>∃c:BdV,v=c.val/\BdAt V' c (e.mul f):=by
 have ia:=ha.inf;have ib:=hb.inf;have key:¬(e.inf=0/\f.inf=0)->∀ {W:View},V.le W->a00 prog Z0d #[a.val] W λv V2=>∃r2:Int,v = .int .i64 r2/\a00 prog Z0d #[b.val] V2 λv V3=>∃r3:Int,v = .int .i64 r3 /\
  ∃c:BdV,(BdV.mk (i64.wrap (r2*r3)) (NumV.mk (WhV.mk false (Sl.mk none 0 0)) (WhV.mk false (Sl.mk none 0 0)) (Sl.mk none 0 0))).val=c.val/\BdAt V3 c (e.mul f):=by
  intro hn W hle;refine(F07 (ha.le hle) hz).mono λv V2 l2 hv=>⟨_,hv,(F07 (hb.le (Gx hle l2)) hw).mono λv V3 _ hv=>⟨_,hv,_,rfl,?_⟩⟩;have r1:e.sign = -1\/e.sign=0\/e.sign=1:=Eb.cmp_range _ _;have r2:f.sign = -1\/f.sign=0\/f.sign=1:=Eb.cmp_range _ _;have hm:=Eb.mul_ok e f;unfold Eb.mul at hm ⊢;rw[if_neg hn]at hm ⊢;have:i64.wrap (e.sign*f.sign)=e.sign*f.sign:=by
   rcases r1 with r1|r1|r1<;>rcases r2 with r2|r2|r2<;>rw[r1,r2]<;>decide
  rw[this]; exact .signs V3 hm
 refine W0p a b V _ ⟨λh=>⟨λh' => ?_,λh' => ?_⟩,λh => ?_⟩
 . have h:e.inf=0:=by rw[<-ia]; simpa using h
   have h':f.inf=0:=by rw[<-ib]; simpa using h'
   refine(m03 ha.num hb.num hz hw).mono λv V1 _ ⟨r,hv,hr⟩=>⟨r,hv,_,rfl,?_⟩;unfold Eb.mul; rw[if_pos ⟨h,h'⟩];refine⟨rfl,?_,.inl rfl⟩;have:e.num*f.num=(⟨0,e.x*f.x⟩:Eb).num:=m0n e.x f.x;rw[<-this]; exact hr
 . have h':f.inf≠0:=by rw[<-ib]; simpa using h'
   exact key (λg=>h' g.2) (Gw V)
 have h:e.inf≠0:=by rw[<-ia]; simpa using h
 exact key (λg=>h g.1) (Gw V)
theorem Z0v(e:Eb):e.neg.num.sz=e.num.sz:=by
 have : -e.num=e.neg.num:=o0n e.x;rw[<-this]; exact i0l _
theorem b0n(e f:Eb):(e.add f).num.sz<=e.num.sz+f.num.sz+1:=by
 unfold Eb.add; split
 . omega
 split
 . omega
 have:e.num+f.num=(⟨0,e.x+f.x⟩:Eb).num:=n0n e.x f.x;rw[<-this]; exact q06 _ _
theorem c0n(e f:Eb):(e.mul f).num.sz<=e.num.sz+f.num.sz+1:=by
 unfold Eb.mul; split
 . have:e.num*f.num=(⟨0,e.x*f.x⟩:Eb).num:=m0n e.x f.x;rw[<-this]; exact D02 _ _
 exact Ah K06 (by omega)
def bdC(V:View)(x:List Value)(e:Eb):Prop:=∃b:BdV,x=b.val.cells.toList/\BdAt V b e
theorem bdC.le{V V':View}(hle:V.le V')(x:List Value)(e:Eb)(h:bdC V x e):bdC V' x e:=by
 obtain⟨b,e1,hb⟩:=h; exact⟨b,e1,hb.le hle⟩
def N0s(V:View)(s:Sl)(es:List Eb):Prop:=n00 6 bdC V s es
theorem N0s.le{V V':View}(hle:V.le V'){s:Sl}{es:List Eb}(h:N0s V s es):N0s V' s es:=He (bdC.le hle) hle h
theorem a0w{V:View}{a b:BdV}{e f:Eb}{p:Option Addr}{way:Int}(ha:BdAt V a e)(hb:BdAt V b f)(hz:e.num.sz<=2^40)(hw:f.num.sz<=2^40)(hp:V.load p=some (.int .i64 way)) :
 a00 prog F0p #[a.val,b.val,.pointer p] V λv _=>v = .bool (decide (e.cmp f=way)) :=
 S0n a b p V _ ⟨way,hp,(G0f ha hb hz hw).mono λv V1 _ hv=>⟨_,hv,by
  congr 1⟩⟩
theorem l0h(way:Int):∀ {es:List Eb} {i:Nat} (h:i+1<es.length),Eb.pick way (es.take (i+2))=if Eb.cmp es[i+1] (Eb.pick way (es.take (i+1)))=way then es[i+1]else Eb.pick way (es.take (i+1))
 | [],_,h=>by simp at h
 | e::es,i,h=>by
   have hi:i<es.length:=by simpa using h
   have e1:(e::es).take (i+2)=e::es.take (i+1):=rfl;have e2:(e::es).take (i+1)=e::es.take i:=rfl;have e3:es.take (i+1)=es.take i++[es[i]]:=by rw[Ce]; simp[hi]
   have e4:(e::es)[i+1]=es[i]:=rfl;rw[e1,e2,e3,e4];show List.foldl _ e (es.take i++[es[i]])=_;rw[List.foldl_append]; rfl
theorem k11(a:Option Addr)(k:Nat):Option.map (λq=>Addr.add q (Int.toNat (k:Int)*6)) (Option.map (λq=>Addr.add q (Int.toNat 1*6)) a)=Option.map (λq=>Addr.add q ((k+1)*6)) a:=by
 rw[Gk];congr 1;funext q;show(q.add (Int.toNat 1*6)).add (Int.toNat (k:Int)*6)=_;rw[S0g,Aa];congr 1;show 1*6+k*6=(k+1)*6;omega
theorem W0q{V:View}{s:Sl}{es:List Eb}{way:Int}(h:N0s V s es)(h0:es≠[])(hn:es.length<=2^32)(hS:∀e∈es,e.num.sz<=2^40) :
 a00 prog b0v #[.int .i64 way,s.v] V λv V'=>∃b:BdV,v=b.val/\BdAt V' b (Eb.pick way es):=by
 have hl:=h.len;have hcap:=h.cap;have h1:1<=es.length:=by
  rcases Ap es.length with c|c
  . exact absurd (Cx c) h0
  exact c
 refine t0s way s V _ (λ_ x V'=>∃i:Nat,x.t16=i/\i+1<=es.length/\BdAt V' x.o6 (Eb.pick way (es.take (i+1)))/\(Eb.pick way (es.take (i+1))).num.sz<=2^40) (λ_ x _=>(es.length-x.t16).toNat) ?_;intro b1 V1 l1 hb1;obtain⟨hb,x,⟨b0,hx,hb0⟩,_,hh,hs⟩:=Hf (h.le l1) (t:=0) (by omega) (z:=es[0]) (by simp);refine⟨hb,b0,hx▸hh,hs,⟨by omega,by omega,by omega⟩,⟨0,rfl,h1,?_,?_⟩,?_⟩
 . have:es.take (0+1)=[es[0]]:=by
     cases es with
     | nil=>simp at h1
     | cons e es=>simp
   rw[this]; exact hb0
 . have:es.take (0+1)=[es[0]]:=by
     cases es with
     | nil=>simp at h1
     | cons e es=>simp
   rw[this]; exact hS _ (Ax _)
 rintro⟨t,o4,o6⟩ V2 l2 ⟨i,rfl,hi,ho,hz⟩;dsimp only at ho hz ⊢;have hlen:((((((s.len:Nat):Int)).toNat-Int.toNat 1:Nat):Int))=(es.length:Int)-1:=by rw[Aa,hl]; show((es.length-1:Nat):Int)=_; omega
 rw[hlen];refine⟨λhlt => ?_,λhge => ?_⟩
 . simp only[Af]at hlt;have hi2:i+1<es.length:=by omega
   have hc1:¬s.cap=Int.toNat 1:=by show ¬s.cap=1; omega
   rw[if_neg hc1,k11];obtain⟨hb',x',⟨b',hx',hb''⟩,_,hh',hs'⟩:=Hf (h.le (Gx l1 l2)) (t:=((i+1:Nat):Int)) (by omega) (z:=es[i+1]) (by rw[Aa]; simp[hi2]);rw[Aa]at hh' hs';have hsm:(Option.map (λq=>Addr.add q (Int.toNat 1*6)) s.a).isSome=true:=by
    have:=hb'.2.2;rw[Gt]; exact this
   refine⟨⟨by omega,by omega,hsm⟩,b',hx'▸hh',hs',?_⟩;have hp:V2.load (some (Addr.mk b1 0 none))=some (.int .i64 way):=H02 l2 (by simp[View.load,hb1]);refine(a0w hb'' ho (hS _ (Ax _)) hz hp).mono λv V3 l3 hv=>⟨_,hv,λhc => ?_,λhc => ?_⟩
   . simp only[Af]at hc;rw[i64w (by omega) (by omega)];refine⟨⟨i+1,by omega,by omega,?_,?_⟩,by omega⟩
     . rw[l0h way hi2,if_pos hc]; exact hb''.le l3
     rw[l0h way hi2,if_pos hc]; exact hS _ (Ax _)
   simp only[Ac]at hc;rw[i64w (by omega) (by omega)];refine⟨⟨i+1,by omega,by omega,?_,?_⟩,by omega⟩
   . rw[l0h way hi2,if_neg hc]; exact ho.le l3
   rw[l0h way hi2,if_neg hc]; exact hz
 simp only[Ac]at hge;have:i+1=es.length:=by omega
 rw[this,Cu]at ho;exact⟨_,rfl,ho⟩
theorem W0h{V:View}{s:Sl}{es:List Eb}(h:N0s V s es)(h0:es≠[])(hn:es.length<=2^32)(hS:∀e∈es,e.num.sz<=2^40) :
 a00 prog S0r #[s.v] V λv V'=>∃b:BdV,v=b.val/\BdAt V' b (Eb.pick (-1) es) :=
 X0p s V _ ((W0q h h0 hn hS).mono λ_ _ _ ⟨b,hv,hb⟩=>⟨b,hv,b,rfl,hb⟩)
theorem M0a{V:View}{s:Sl}{es:List Eb}(h:N0s V s es)(h0:es≠[])(hn:es.length<=2^32)(hS:∀e∈es,e.num.sz<=2^40) :
 a00 prog u0l #[s.v] V λv V'=>∃b:BdV,v=b.val/\BdAt V' b (Eb.pick 1 es) :=
 U0j s V _ ((W0q h h0 hn hS).mono λ_ _ _ ⟨b,hv,hb⟩=>⟨b,hv,b,rfl,hb⟩)
structure EsAt (V:View) (s:SetV) (e:Es):Prop where
 lo:BdAt V s.lo e.lo
 hi:BdAt V s.hi e.hi
theorem EsAt.le{V V':View}{s:SetV}{e:Es}(hle:V.le V')(h:EsAt V s e):EsAt V' s e:=⟨h.lo.le hle,h.hi.le hle⟩
def Es.szle(e:Es)(S:Nat):Prop:=e.lo.num.sz<=S/\e.hi.num.sz<=S
theorem X0q{V:View}{s t:SetV}{e f:Es}(h:EsAt V s e)(k:EsAt V t f){S:Nat}(he:Es.szle e S)(hf:Es.szle f S)(hS:S<=2^30) :
 a00 prog T0w #[s.val,t.val] V λv V'=>∃r:SetV,v=r.val/\EsAt V' r (e.add f) :=
 B0v s t V _ ((H0f h.lo k.lo (by have:=he.1; omega) (by have:=hf.1; omega)).mono λv V1 l1 ⟨a,hv,ha⟩=>⟨a,hv,
  (H0f (h.hi.le l1) (k.hi.le l1) (by have:=he.2; omega) (by have:=hf.2; omega)).mono λv V2 l2 ⟨b,hv,hb⟩=>⟨b,hv,_,rfl,ha.le l2,hb⟩⟩)
theorem O0s{way:Int}{es:List Eb}{S:Nat}(h0:es≠[])(h:∀e∈es,e.num.sz<=S):(Eb.pick way es).num.sz<=S:=by
 cases es with
 | nil=>exact absurd rfl h0
 | cons e es =>
   show(List.foldl (λo x=>if x.cmp o=way then x else o) e es).num.sz<=S
   rcases Eb.pick_mem way es e with g|g
   . rw[g]; exact h e (by simp)
   exact h _ (by simp[g])
theorem G0o{V:View}{s:SetV}{e:Es}(h:EsAt V s e){S:Nat}(he:Es.szle e S)(hS:S<=2^30):a00 prog Z0u #[s.val] V λv _=>v = .bool e.zero:=by
 have a:=he.1; have b:=he.2;refine u0s s V _ ((F07 h.lo (by omega)).mono λv V1 l1 hv=>⟨_,hv,λhc => ?_,λhc => ?_⟩)
 . refine(F07 (h.hi.le l1) (by omega)).mono λv V2 _ hv=>⟨_,hv,?_⟩;unfold Es.zero; rw[hc]; rfl
 unfold Es.zero; rw[hc]; rfl
theorem a0u:18442240474082181120=m07 (-(infR:Int)):=by decide
theorem f12:infR=m07 (infR:Int):=by decide
theorem A0d{V:View}{s:SetV}{e:Es}(h:EsAt V s e){S:Nat}(he:Es.szle e S)(hS:S<=2^30):a00 prog T0u #[s.val] V λv _=>v=(Sk.v e.span).val:=by
 have a:=he.1; have b:=he.2;have il:=h.lo.inf;have ih:=h.hi.inf;refine w0s s V _ (Q10.mono λv V1 l1 hv=>⟨_,hv,m0y.mono λv V2 l2 hv=>⟨_,hv,λh1 => ?_,λh1 => ?_⟩⟩)
 . have h1:e.lo.inf=0:=by rw[<-il]; simpa using h1
   refine(Y0v (h.lo.num.le (Gx l1 l2)) (by omega)).mono λv V3 l3 hv=>⟨_,hv,λh2 => ?_,λh2 => ?_⟩
   . have h2:e.hi.inf=0:=by rw[<-ih]; simpa using h2
     refine(a0n (h.hi.num.le (Gx l1 (Gx l2 l3))) (by omega)).mono λv V4 l4 hv=>⟨_,hv,?_⟩;unfold Es.span Sk.v; rw[if_pos h1,if_pos h2]; rfl
   have h2:e.hi.inf≠0:=by rw[<-ih]; simpa using h2
   unfold Es.span Sk.v; rw[if_pos h1,if_neg h2,<-f12]; rfl
 have h1:e.lo.inf≠0:=by rw[<-il]; simpa using h1
 refine⟨λh2 => ?_,λh2 => ?_⟩
 . have h2:e.hi.inf=0:=by rw[<-ih]; simpa using h2
   refine(a0n (h.hi.num.le (Gx l1 l2)) (by omega)).mono λv V4 l4 hv=>⟨_,hv,?_⟩;unfold Es.span Sk.v; rw[if_neg h1,if_pos h2,<-a0u]; rfl
 have h2:e.hi.inf≠0:=by rw[<-ih]; simpa using h2
 unfold Es.span Sk.v; rw[if_neg h1,if_neg h2,<-f12,<-a0u]
theorem Y0q{V:View}{s t:Sk}(h:s.ok)(k:t.ok):a00 prog U0u #[s.v.val,t.v.val] V λv _=>v=(s.hull t).v.val:=by
 refine p0s s.v t.v V _ ⟨G0m h.lo k.lo,G0m h.hi k.hi,?_⟩;show(SpV.mk (fmin .f64 (m07 s.lo) (m07 t.lo)) (fmax .f64 (m07 s.hi) (m07 t.hi))).val=_;rw[z10 h.lo k.lo,y10 h.hi k.hi]; rfl
theorem b0u{V:View}{s:Sk}(h:s.ok):a00 prog S0u #[s.v.val] V λv V'=>∃r:SetV,v=r.val/\EsAt V' r s.set:=by
 refine q0s s.v V _ ((Z0t (okK h.lo)).mono λv V1 _ ⟨a,hv,ha⟩=>⟨a,hv,(Z0t (okK h.hi)).mono λv V2 l2 ⟨b,hv,hb⟩=>⟨b,hv,_,rfl,?_,?_⟩⟩)
 . rw[keyK h.lo]at ha; exact ha.le l2
 rw[keyK h.hi]at hb; exact hb
theorem q0j{s:Sk}(h:s.ok):Es.szle s.set 2100:=⟨Q0y h.lo,Q0y h.hi⟩
theorem m11{e f:Es}{S:Nat}(he:Es.szle e S)(hf:Es.szle f S):Es.szle (e.add f) (2*S+1):=by
 have a:=he.1; have b:=he.2; have c:=hf.1; have d:=hf.2;have h1:=b0n e.lo f.lo; have h2:=b0n e.hi f.hi;exact⟨show(e.lo.add f.lo).num.sz<=_ by omega,show(e.hi.add f.hi).num.sz<=_ by omega⟩
theorem H0o{V:View}{b c:Bk}(h:b.ok)(k:c.ok):a00 prog N0u #[b.v.val,c.v.val] V λv _=>v=(b.hull c).v.val :=
 s0s b.v c.v V _ ((Y0q h.re k.re).mono λ_ _ _ hv=>⟨_,hv,(Y0q h.im k.im).mono λ_ _ _ hv=>⟨_,hv,rfl⟩⟩)
theorem i0g{V:View}{b:Nat}{r1 r2:BdV}{e1 e2:Eb}(h1:BdAt V r1 e1)(h2:BdAt V r2 e2)
 (hb:V b=some #[.int .i64 r1.inf,.bool r1.x.re.neg,r1.x.re.mag.v,.bool r1.x.im.neg,r1.x.im.mag.v,r1.x.under.v,.int .i64 r2.inf,.bool r2.x.re.neg,r2.x.re.mag.v,.bool r2.x.im.neg,r2.x.im.mag.v,r2.x.under.v]) :
 N0s V ⟨some ⟨b,0,none⟩,2,2⟩ [e1,e2] :=
 W01 (o:=r1.val.cells.toList++(r2.val.cells.toList++[])) hb ⟨_,_,rfl,rfl,⟨r1,rfl,h1⟩,_,_,rfl,rfl,⟨r2,rfl,h2⟩,rfl⟩ rfl
def H0e(s t:Sk):Int:=if s.hi<t.lo then 1 else if t.hi<=s.lo then 2 else 0
theorem I0e{V:View}{s t:Sk}(h:s.ok)(k:t.ok):a00 prog x0p #[s.v.val,t.v.val] V λv _=>v = .int .i64 (H0e s t):=by
 refine P0n s.v t.v V _ ⟨λhc => ?_,λhc=>⟨λhd => ?_,λhd => ?_⟩⟩
 . have hc:decide (s.hi<t.lo)=true:=by rw[<-ltK h.hi k.lo]; exact hc
   unfold H0e; rw[if_pos (by simpa using hc)]
 . have hc:decide (s.hi<t.lo)=false:=by rw[<-ltK h.hi k.lo]; exact hc
   have hd:decide (t.hi<=s.lo)=true:=by rw[<-geK h.lo k.hi]; exact hd
   unfold H0e; rw[if_neg (by simpa using hc),if_pos (by simpa using hd)]
 have hc:decide (s.hi<t.lo)=false:=by rw[<-ltK h.hi k.lo]; exact hc
 have hd:decide (t.hi<=s.lo)=false:=by rw[<-geK h.lo k.hi]; exact hd
 unfold H0e; rw[if_neg (by simpa using hc),if_neg (by simpa using hd)]
theorem J0f{V:View}{a:BdV}{e:Eb}(ha:BdAt V a e)(hz:e.num.sz<=2^40):a00 prog X0r #[a.val] V λv V'=>∃b:BdV,v=b.val/\BdAt V' b e.abs:=by
 refine M0p a V _ ((F07 ha hz).mono λv V1 l1 hv=>⟨_,hv,λh => ?_,λh => ?_⟩)
 . have h:e.sign<0:=by simpa using h
   exact(H0l (ha.le l1)).mono λv V2 _ ⟨b,hv,hb⟩=>⟨b,hv,b,rfl,by unfold Eb.abs; rw[if_pos h]; exact hb⟩
 have h:¬e.sign<0:=by simpa using h
 exact⟨a,rfl,by unfold Eb.abs; rw[if_neg h]; exact ha.le l1⟩
theorem c0u(e:Eb):e.abs.num.sz=e.num.sz:=by
 unfold Eb.abs; split
 . exact Z0v e
 rfl
theorem N0k{V:View}:a00 prog Y0r #[.int .i64 0] V λv V'=>∃b:BdV,v=b.val/\BdAt V' b (Eb.fin 0):=by
 refine N0p 0 V _ ((a02 (by omega) (by omega)).mono λv V1 _ ⟨r,hv,hr⟩=>⟨r,hv,_,rfl,rfl,?_,.inl rfl⟩);rw[Rat.intCast_zero]at hr; exact hr
theorem Z0q{e:Es}{S:Nat}(he:Es.szle e S)(hS:1<=S):Es.szle e.size S:=by
 have a:=c0u e.lo; have b:=c0u e.hi; have c:=he.1; have d:=he.2;have p:∀way,(Eb.pick way [e.lo.abs,e.hi.abs]).num.sz<=S:=λway=>O0s (by simp) (by intro x hx; simp at hx; rcases hx with rfl|rfl<;>omega)
 unfold Es.size; split
 . exact⟨Ah S0y hS,p 1⟩
 exact⟨p (-1),p 1⟩
theorem I0o{V:View}{s:SetV}{e:Es}(h:EsAt V s e){S:Nat}(he:Es.szle e S)(hS:S<=2^30):a00 prog X0u #[s.val] V λv V'=>∃r:SetV,v=r.val/\EsAt V' r e.size:=by
 have a:=c0u e.lo; have b:=c0u e.hi; have c:=he.1; have d:=he.2;have p:∀x∈[e.lo.abs,e.hi.abs],x.num.sz<=2^40:=by intro x hx; simp at hx; rcases hx with rfl|rfl<;>omega
 refine n0s s V _ ((J0f h.lo (by omega)).mono λv V1 l1 ⟨r1,hv,h1⟩=>⟨r1,hv,(J0f (h.hi.le l1) (by omega)).mono λv V2 l2 ⟨r2,hv,h2⟩=>⟨r2,hv,?_⟩⟩);refine(G0o (h.le (Gx l1 l2)) he hS).mono λv V3 l3 hv=>⟨_,hv,λhc => ?_,λhc => ?_⟩
 . refine N0k.mono λv V4 l4 ⟨r4,hv,h4⟩=>⟨r4,hv,λb1 V5 l5 _ hb1 => ?_⟩;have L:=Gx l3 (Gx l4 l5);refine(M0a (i0g (h1.le (Gx l2 L)) (h2.le L) hb1) (by simp) (by simp) p).mono λv V6 l6 ⟨r5,hv,h5⟩=>⟨r5,hv,_,rfl,?_⟩;unfold Es.size; rw[if_pos hc]; exact⟨h4.le (Gx l5 l6),h5⟩
 intro b2 V7 l7 _ hb2;have L:=Gx l3 l7;refine(W0h (i0g (h1.le (Gx l2 L)) (h2.le L) hb2) (by simp) (by simp) p).mono λv V8 l8 ⟨r6,hv,h6⟩=>⟨r6,hv,λb3 V9 l9 _ hb3 => ?_⟩;have L2:=Gx L (Gx l8 l9);refine(M0a (i0g (h1.le (Gx l2 L2)) (h2.le L2) hb3) (by simp) (by simp) p).mono λv V10 l10 ⟨r7,hv,h7⟩=>⟨r7,hv,_,rfl,?_⟩;unfold Es.size; rw[if_neg (by rw[hc]; decide)]; exact⟨h6.le (Gx l9 l10),h7⟩
theorem O0k{e:Es}{S:Nat}(he:Es.szle e S)(hS:1<=S):Es.szle e.square (2*S+1):=by
 have z:=Z0q he hS;have a:=c0n e.size.lo e.size.lo; have b:=c0n e.size.hi e.size.hi;have c:=z.1; have d:=z.2;exact⟨by show(e.size.lo.mul e.size.lo).num.sz<=_; omega,by show(e.size.hi.mul e.size.hi).num.sz<=_; omega⟩
theorem J0e{V:View}{s:SetV}{e:Es}(h:EsAt V s e){S:Nat}(he:Es.szle e S)(h1S:1<=S)(hS:S<=2^30):a00 prog w0p #[s.val] V λv V'=>∃r:SetV,v=r.val/\EsAt V' r e.square:=by
 have z:=Z0q he h1S;have c:=z.1; have d:=z.2;refine N0n s V _ ((I0o h he hS).mono λv V1 l1 ⟨r1,hv,h1⟩=>⟨r1,hv,?_⟩);refine(I0f h1.lo h1.lo (by omega) (by omega)).mono λv V2 l2 ⟨r2,hv,h2⟩=>⟨r2,hv,?_⟩;exact(I0f (h1.hi.le l2) (h1.hi.le l2) (by omega) (by omega)).mono λv V3 l3 ⟨r3,hv,h3⟩=>⟨r3,hv,_,rfl,h2.le l3,h3⟩
def Bk.norm(b:Bk):Sk:=(b.re.set.square.add b.im.set.square).span
theorem J0o{V:View}{b:Bk}(h:b.ok):a00 prog M0u #[b.v.val] V λv _=>v=(Bk.norm b).v.val:=by
 have z1:=O0k (q0j h.re) (by omega); have z2:=O0k (q0j h.im) (by omega);refine o0s b.v V _ ((b0u h.re).mono λv V1 l1 ⟨r1,hv,h1⟩=>⟨r1,hv,?_⟩);refine(J0e h1 (q0j h.re) (by omega) (by omega)).mono λv V2 l2 ⟨r2,hv,h2⟩=>⟨r2,hv,?_⟩;refine(b0u h.im).mono λv V3 l3 ⟨r3,hv,h3⟩=>⟨r3,hv,?_⟩;refine(J0e h3 (q0j h.im) (by omega) (by omega)).mono λv V4 l4 ⟨r4,hv,h4⟩=>⟨r4,hv,?_⟩;refine(X0q (h2.le (Gx l3 l4)) h4 z1 z2 (by omega)).mono λv V5 l5 ⟨r5,hv,h5⟩=>⟨r5,hv,?_⟩;exact(A0d h5 (m11 z1 z2) (by omega)).mono λv V6 _ hv=>⟨_,hv,rfl⟩
def ofS(q:Rat):Sk:=⟨E0m q,F0m q⟩
def ofB(z:Cq):Bk:=⟨ofS z.re,ofS z.im⟩
theorem i12(q:Rat):(ofS q).ok:=⟨t0q q,u0q q⟩
theorem d0u(z:Cq):(ofB z).ok:=⟨i12 _,i12 _⟩
theorem P0k{V:View}{x y:NumV}{q:Rat}(hx:Q00 V x ⟨q,0⟩)(hy:Q00 V y ⟨q,0⟩)(hz:(⟨q,0⟩:Cq).sz<=2^28):a00 prog o0i #[x.val,y.val] V λv _=>v = .tuple #[(ofS q).v.val,.int .i64 0]:=by
 refine M0g x y V _ ((I02 hx).mono λv V1 l1 hv=>⟨_,hv,λh=>absurd h (by simp),λ_ => ?_⟩);refine(I02 (hy.le l1)).mono λv V2 l2 hv=>⟨_,hv,λh=>absurd h (by simp),λ_ b1 V3 l3 _ hb1 => ?_⟩;have L3:=Gx l1 (Gx l2 l3);have bx:BdAt V3 (BdV.mk 0 x) ⟨0,q⟩:=⟨rfl,hx.le L3,.inl rfl⟩;have byy:BdAt V3 (BdV.mk 0 y) ⟨0,q⟩:=⟨rfl,hy.le L3,.inl rfl⟩;have hs:∀e∈[(⟨0,q⟩:Eb),⟨0,q⟩],e.num.sz<=2^40:=by
  intro e he; simp at he; subst he; exact Ah hz (by omega)
 have pk:∀way,Eb.pick way [(⟨0,q⟩:Eb),⟨0,q⟩]=⟨0,q⟩:=λway=>by
  show(if Eb.cmp ⟨0,q⟩ ⟨0,q⟩=way then(⟨0,q⟩:Eb)else⟨0,q⟩)=_
  split<;>rfl
 refine(W0h (i0g bx byy hb1) (by simp) (by simp) hs).mono λv V4 l4 ⟨r3,hv,h3⟩=>⟨r3,hv,λb2 V5 l5 _ hb2 => ?_⟩;have L5:=Gx l4 l5;refine(M0a (i0g (bx.le L5) (byy.le L5) hb2) (by simp) (by simp) hs).mono λv V6 l6 ⟨r4,hv,h4⟩=>⟨r4,hv,?_⟩;rw[pk]at h3 h4;have hset:EsAt V6 (SetV.mk r3 r4) ⟨⟨0,q⟩,⟨0,q⟩⟩:=⟨h3.le (Gx l5 l6),h4⟩;refine(A0d hset (S:=2^28) ⟨hz,hz⟩ (by omega)).mono λv V7 _ hv=>⟨_,hv,?_⟩;rfl
theorem T0y{V:View}{x:NumV}{z:Cq}(b:BoxV)(hx:Q00 V x z)(hz:z.sz<=2^27):a00 prog S0z #[b.val,x.val] V λv _=>v=(ofB z).v.val:=by
 have s1:=S14 z; have s2:=T14 z;refine i0x b x V _ ((D0k hx (by omega)).mono λv V1 l1 ⟨r1,hv,h1⟩=>⟨r1,hv,?_⟩);refine(D0k (hx.le l1) (by omega)).mono λv V2 l2 ⟨r2,hv,h2⟩=>⟨r2,hv,?_⟩;refine(P0k (h1.le l2) h2 (by omega)).mono λv V3 l3 hv=>⟨_,_,hv,?_⟩;have L3:=Gx l1 (Gx l2 l3);refine(E0k (hx.le L3) (by omega)).mono λv V4 l4 ⟨r5,hv,h5⟩=>⟨r5,hv,?_⟩;refine(E0k (hx.le (Gx L3 l4)) (by omega)).mono λv V5 l5 ⟨r6,hv,h6⟩=>⟨r6,hv,?_⟩;exact(P0k (h5.le l5) h6 (by omega)).mono λv V6 _ hv=>⟨_,_,hv,rfl⟩
theorem s0j{z:Cq}(h:z.im=0):z=(⟨0,z.re⟩:Eb).num:=Hb rfl h
def arE(z w:Cq):Int:=if z.im=0/\w.im=0 then 0 else 1
def arL(z w:Cq):List Eb:=[⟨0,z.re⟩,⟨0,w.re⟩]
def arS(z w:Cq):Sk:=if z.im=0/\w.im=0 then Es.span ⟨Eb.pick (-1) (arL z w),Eb.pick 1 (arL z w)⟩else Sk.nil
theorem i15(z w:Cq):(arS z w).ok:=by
 unfold arS; split
 . exact l0n _
 exact z0z
theorem j15{z w:Cq}{S:Nat}(hz:z.sz<=S)(hw:w.sz<=S)(h1:z.im=0)(h2:w.im=0):∀e∈arL z w,e.num.sz<=S:=by
 intro e he;simp only[arL,Bq,Cp,Eq9]at he;rcases he with rfl|rfl
 . rw[<-s0j h1]; exact hz
 rw[<-s0j h2]; exact hw
theorem a0r{V:View}{x y:NumV}{z w:Cq}(hx:Q00 V x z)(hy:Q00 V y w)(hz:z.sz<=2^27)(hw:w.sz<=2^27):a00 prog o0i #[x.val,y.val] V λv _=>v = .tuple #[(arS z w).v.val,.int .i64 (arE z w)]:=by
 refine M0g x y V _ ((I02 hx).mono λv V1 l1 hv=>⟨_,hv,λh => ?_,λh => ?_⟩)
 . have h:¬z.im=0:=by simpa using h
   unfold arS arE; rw[if_neg (λg=>h g.1),if_neg (λg=>h g.1)]; rfl
 have h1:z.im=0:=by simpa using h
 refine(I02 (hy.le l1)).mono λv V2 l2 hv=>⟨_,hv,λh => ?_,λh b1 V3 l3 _ hb1 => ?_⟩
 . have h:¬w.im=0:=by simpa using h
   unfold arS arE; rw[if_neg (λg=>h g.2),if_neg (λg=>h g.2)]; rfl
 have h2:w.im=0:=by simpa using h
 have L3:=Gx l1 (Gx l2 l3);have bx:BdAt V3 (BdV.mk 0 x) ⟨0,z.re⟩:=⟨rfl,by rw[<-s0j h1]; exact hx.le L3,.inl rfl⟩;have byy:BdAt V3 (BdV.mk 0 y) ⟨0,w.re⟩:=⟨rfl,by rw[<-s0j h2]; exact hy.le L3,.inl rfl⟩;have hs:=j15 hz hw h1 h2;have hs40:∀e∈arL z w,e.num.sz<=2^40:=λe he=>Ah (hs e he) (by omega)
 refine(W0h (es:=arL z w) (i0g bx byy hb1) (by simp[arL]) (by simp[arL]) hs40).mono λv V4 l4 ⟨r3,hv,h3⟩=>⟨r3,hv,λb2 V5 l5 _ hb2 => ?_⟩;have L5:=Gx l4 l5;refine(M0a (es:=arL z w) (i0g (bx.le L5) (byy.le L5) hb2) (by simp[arL]) (by simp[arL]) hs40).mono λv V6 l6 ⟨r4,hv,h4⟩=>⟨r4,hv,?_⟩;have hset:EsAt V6 (SetV.mk r3 r4) ⟨Eb.pick (-1) (arL z w),Eb.pick 1 (arL z w)⟩:=⟨h3.le (Gx l5 l6),h4⟩;refine(A0d hset (S:=2^27) ⟨O0s (by simp[arL]) hs,O0s (by simp[arL]) hs⟩ (by omega)).mono λv V7 _ hv=>⟨_,hv,?_⟩;unfold arS arE; rw[if_pos ⟨h1,h2⟩,if_pos ⟨h1,h2⟩]
theorem oneB{V:View}{x:List Value}{b:Bk}(h:boxC V x b):∀v∈x,Value.oneCell' v=true:=by
 obtain⟨e,_⟩:=h;subst e;intro v hv;have e:b.v.val.cells.toList=[.float .f64 b.v.re.lo,.float .f64 b.v.re.hi,.float .f64 b.v.im.lo,.float .f64 b.v.im.hi]:=rfl;rw[e]at hv;simp only[Bq,Cp,Eq9]at hv;rcases hv with rfl|rfl|rfl|rfl<;>rfl
theorem O15{V:View}{o:List Value}{row:List Bk}(h:f01 4 boxC V o row):∀v∈o,Value.oneCell' v=true:=by
 induction row generalizing o with
 | nil=>rw[show o=[]from h]; simp
 | cons z zs ih =>
   obtain⟨x,o',e,hx,hp,ht⟩:=h;subst e;intro v hv;rw[Cb]at hv;rcases hv with hv|hv
   . exact oneB hp v hv
   exact ih ht v hv
theorem m0h{m V:View}{s:Sl}{row:List Bk}{o:List Value}(hC:f01 4 boxC V o row)(ho:has2 m V s.a o)(hl:s.len=row.length)(ha:s.a=none->row=[])(hb:row.length<=2^30) :
 f03 prog a06 #[s.v] m V λv m' V'=>∃(r:Sl) (b:Nat),v=r.v/\RowR 4 boxC m' V' r b row/\(row≠[]->m b=none)/\(∀i,i≠b\/row=[]->m' i=m i):=by
 refine t08 m s V _ ⟨trivial,λh => ?_,λh b1 V1 l1 hf hb1 => ?_⟩
 . have e:=ha (by simpa using h);exact⟨⟨none,0,0⟩,0,rfl,⟨by rw[e]; rfl,An9 _,λ_=>rfl,λh=>absurd e h⟩,λh=>absurd e h,λ_ _=>rfl⟩
 have hol:=hC.length;refine⟨[],o,⟨An9 _,λh=>by simp at h⟩,.inl (by intro j v hj; simp at hj),by simp,P0d l1 ho,by rw[hol,hl],O15 hC,by unfold maxLen; omega,by omega,λh1 h2=>by omega,λa1 c1 m1 ha1 => ?_⟩;have hC1:f01 4 boxC V1 o row:=hC.imp (Hj l1);obtain⟨b,hr,hb2,hm,hm2⟩:=c0i hC1 rfl hl ha1;exact⟨_,b,rfl,hr,hb2,λi hi=>by
  rcases hi with hi|hi
  . exact hm i hi
  rw[hm2 hi]⟩
theorem I0l{V:View}{s:Sl}{row:List Bk}(h:n00 4 boxC V s row)(hb:row.length<=2^30) :
 a00 prog a06 #[s.v] V λv V'=>∃r:Sl,v=r.v/\n00 4 boxC V' r row:=by
 obtain⟨hl,hc,hn,o,ho,hC⟩:=h;refine f03.known (m0h (m:=λ_=>none) hC (.inr ho) hl (λe => ?_) hb) λv m V' V2 l e ap ⟨r,b,hv,hr,_⟩=>⟨r,hv,?_⟩
 . rcases Gu (row=[])with g|g
   . exact g
   have:=hn g; rw[e]at this; simp at this
 subst e;exact hr.known (Hj (W0a ap)) (λb cs g=>I07 g)
theorem y0f{V:View}{p:Sl}{rows:List (List Bk)}(h:c01 4 boxC V p rows) :
 a00 prog y0a #[p.v] V λv V'=>∃g:x00,v = .tuple #[g.val,.int .i64 (u0f rows)]/\c01 4 boxC V' g.rows (o0e rows):=by
 have hl:p.len=rows.length:=h.len;have bad:∀V':View,y05 rows=false->∃g:x00,Value.tuple #[(x00.mk (Sl.mk none 0 0)).val,.int .i64 4] = .tuple #[g.val,.int .i64 (u0f rows)]/\c01 4 boxC V' g.rows (o0e rows):=λV' e=>by
  refine⟨⟨⟨none,0,0⟩⟩,?_,?_⟩
  . unfold u0f; rw[e]; rfl
  unfold o0e; rw[e]; exact n00.nil
 refine g0a p V _ (λ_ _ _=>1<=rows.length/\rows.length<=64)
  (λ_ x V'=>∃(t:Nat) (l:List Value),x.t18=t/\t<=rows.length/\G02 1 x.o4_0l x.o4_0c x.o45 l/\x.o4_0l=t/\f01 1 (λV x row=>∃s:Sl,x=[s.v]/\n00 4 boxC V s row) V' l (rows.take t)/\∀row∈rows.take t,B07 (T01 rows) row=true)
  (λ_ x _=>rows.length-x.t18.toNat) ?_
 rw[hl];refine⟨⟨λc=>bad V ?_,λc=>⟨λc'=>bad V ?_,λc' => ?_⟩⟩,?_⟩
 . unfold y05;have c:=Ak c;have:decide (1<=rows.length)=false:=Ao (by omega);rw[this]; rfl
 . unfold y05;have c':=Ak c';have:decide (rows.length<=64)=false:=Ao (by omega);rw[this,Do9,Bs]
 . have c:=Al c;have c':=Al c';omega
 rintro⟨o2⟩ V1 l1 ⟨n1,n2⟩;refine⟨⟨0,[],rfl,by omega,Hg,rfl,rfl,by simp⟩,?_⟩;rintro⟨t18,o2',k,c,o⟩ V2 l2 ⟨t,l,et,ht,hL,ek,hC,hall⟩;dsimp only at et hL ek hC ⊢;subst et; subst ek;have L2:=Gx l1 l2;refine⟨λhlt => ?_,λhge => ?_⟩
 . have hk:k<rows.length:=by simp at hlt; omega
   have ek:rows[k]?=some rows[k]:=Ae hk;have hmem:=Ax hk;obtain⟨g,s,h1,h2⟩:=(Hi Hj L2 h).row (t:=(k:Int)) (by omega) (row:=rows[k]) (by rw[Aa]; exact ek);have hs:s.len=rows[k].length:=h2.len;rw[hl]at g;have tk:rows.take (k+1)=rows.take k++[rows[k]]:=by rw[Ce,ek]; rfl
   generalize rows[k]=row at *;have no:B07 (T01 rows) row=false->y05 rows=false:=λe=>by
    unfold y05;rw[Fr9.2 ⟨row,hmem,by rw[e]; simp⟩,Bs,Bs]
   refine⟨g,s,h1,λc1=>bad V2 (no ?_),λc1=>⟨λc2=>bad V2 (no ?_),λc2 => ?_⟩⟩
   . unfold B07;have c1:=Ak c1;have:decide (1<=row.length)=false:=Ao (by omega);rw[this]; rfl
   . unfold B07;have c2:=Ak c2;have:decide (row.length<=64)=false:=Ao (by omega);rw[this,Do9,Bs]
   obtain⟨row0,e0,e1⟩:=I0a (rows:=rows) (by omega);obtain⟨g0,s0,h3,h4⟩:=(Hi Hj L2 h).row (t:=(0:Int)) (by omega) (row:=row0) e0;have hs0:s0.len=T01 rows:=by rw[<-e1]; exact h4.len
   rw[hl]at g0;refine⟨g0,s0,h3,λc3=>bad V2 (no ?_),λc3 => ?_⟩
   . unfold B07;have:decide (row.length=T01 rows)=false:=Ao (λe=>by rw[hs,hs0,e]at c3; simp at c3);rw[this,Bs,Bs]
   have ok:B07 (T01 rows) row=true:=by
    have c1:=Al c1;have c2:=Al c2;have c3:row.length=T01 rows:=by rw[hs,hs0]at c3; simp at c3; omega
    unfold B07;rw[Aq (show 1<=row.length by omega),Aq (show row.length<=64 by omega),Aq c3]; rfl
   refine(I0l h2 (by have:=Al c2; omega)).mono λv V3 l3 ⟨r1,hv,hr⟩=>⟨r1,hv,λb1 V4 l4 _ hb1 => ?_⟩;have hnew:V4.has (some (Addr.mk b1 0 none)) [r1.v]:=e05 (cs:=[r1.v]) (j:=0) hb1 (λi v hv=>by rw[Am]; exact hv) rfl;refine⟨l,_,hL,hnew,rfl,by intro v hv; simp at hv; subst hv; rfl,by unfold maxLen; omega,by omega,λc1 l3' hl3 => ?_⟩;rw[i64w (by omega) (by omega)];have L24:=Gx l3 l4;refine⟨⟨k+1,_,by omega,by omega,hl3,rfl,?_,λrow' hr' => ?_⟩,by omega⟩
   . rw[tk];exact(hC.imp λ_ _ ⟨s,e,hs⟩=>⟨s,e,He (Hj L24) L24 hs⟩).append (Hd rfl ⟨_,rfl,He (Hj l4) l4 hr⟩)
   rw[tk]at hr';rcases Cb.1 hr' with hr'|hr'
   . exact hall row' hr'
   rw[show row'=row by simpa using hr']; exact ok
 have e:k=rows.length:=by simp at hge; omega
 subst e;rw[Cu]at hC hall;intro b2 V5 l5 hb2;have ok:y05 rows=true:=by
  unfold y05;simp only[By,Af,Bk9];exact⟨n1,n2,hall⟩
 refine⟨⟨⟨lstA b2 c,rows.length,c⟩⟩,by unfold u0f; rw[ok]; rfl,?_⟩;unfold o0e; rw[if_pos ok];exact k04 hL hb2 (hC.imp λ_ _ ⟨s,e,hs⟩=>⟨s,e,He (Hj l5) l5 hs⟩) rfl
theorem S0c{V:View}{g:x00}{rows:List (List Bk)}(h:c01 4 boxC V g.rows rows) :
 a00 prog X08 #[g.val] V λv _=>v = .tuple #[.int .i64 (rows.length:Int),.int .i64 (T01 rows:Int)]:=by
 have hl:g.rows.len=rows.length:=h.len;refine u08 g V _ ⟨λc => ?_,λc => ?_⟩
 . have e:rows=[]:=Dc.1 (by simp at c; omega);subst e; rfl
 obtain⟨row0,e0,e1⟩:=I0a (rows:=rows) (by simp at c; omega);obtain⟨g0,s0,h3,h4⟩:=h.row (t:=(0:Int)) (by omega) (row:=row0) e0;refine⟨g0,s0,h3,?_⟩;rw[h4.len,e1,hl]
theorem Q0k{V:View}{g:x00}{rows:List (List Bk)}{i j:Int}(h:c01 4 boxC V g.rows rows)(hr:Rect rows)(d:Bk) :
 a00 prog w09 #[g.val,.int .i64 i,.int .i64 j] V λv V'=>∃(r:BoxV) (e:Int),v = .tuple #[r.val,.int .i64 e] /\
  ((0<=i/\i<rows.length)/\(0<=j/\j<T01 rows)->e=0/\boxC V' r.val.cells.toList ((rows.getD i.toNat []).getD j.toNat d)) /\
  (¬((0<=i/\i<rows.length)/\(0<=j/\j<T01 rows))->e=1):=by
 refine a09 g i j V _ ((S0c h).mono λv V1 l1 hv=>⟨_,_,hv,λc => ?_,λc=>⟨λc2 => ?_,λc2=>⟨λc3 => ?_,λc3=>⟨λc4 => ?_,λc4 => ?_⟩⟩⟩⟩)
 . have c:=Ak c;exact⟨_,_,rfl,λk=>absurd k.1.1 (by omega),λ_=>rfl⟩
 . have c2:=Ak c2;exact⟨_,_,rfl,λk=>absurd k.1.2 (by omega),λ_=>rfl⟩
 . have c3:=Ak c3;exact⟨_,_,rfl,λk=>absurd k.2.1 (by omega),λ_=>rfl⟩
 . have c4:=Ak c4;exact⟨_,_,rfl,λk=>absurd k.2.2 (by omega),λ_=>rfl⟩
 have c:=Al c;have c2:=Al c2;have c3:=Al c3;have c4:=Al c4;have hi:i.toNat<rows.length:=by omega
 have ek:rows[i.toNat]?=some (rows.getD i.toNat []):=by simp[List.getD,hi]
 obtain⟨g1,s,h1,h2⟩:=(Hi Hj l1 h).row (t:=i) (by omega) ek;have hrl:=p0e hr ek;have hj:j.toNat<(rows.getD i.toNat []).length:=by omega
 obtain⟨g2,x,hx,_,hh,hs⟩:=Hf h2 (t:=j) (by omega) (z:=(rows.getD i.toNat []).getD j.toNat d) (M08 hj d);obtain⟨y,ey⟩:∃y:BoxV,x=y.val.cells.toList:=by obtain⟨e,_⟩:=hx; exact⟨_,e⟩
 subst ey;exact⟨g1,s,h1,g2,y,hh,hs,_,_,rfl,λ_=>⟨rfl,hx⟩,λk=>absurd ⟨⟨by omega,by omega⟩,by omega,by omega⟩ k⟩
theorem S0k{n w:Nat}(A:Nat->Nat->Cq)(hn:n<=32)(hw:w<=32):G0k (matL n w A)=true/\(0<n->k0a (matL n w A)=w)/\(n=0->k0a (matL n w A)=0):=by
 have hc:0<n->k0a (matL n w A)=w:=by
  intro h;unfold k0a matL;obtain⟨m,rfl⟩:∃m,n=m+1:=⟨n-1,by omega⟩;rw[List.range_succ_eq_map];simp[B00]
 refine⟨?_,hc,λh=>by subst h; rfl⟩;unfold G0k;rcases Ap n with h|h
 . subst h; rfl
 rw[hc h,O00];have e:((matL n w A).any λrow=>decide (row.length≠w))=false:=by
  rw[Gv];intro row hrow;unfold matL at hrow;obtain⟨i,_,rfl⟩:=Bc.1 hrow;simp[B00]
 rw[e];simp[hn,hw]
theorem k15{V:View}{p:Sl}{n:Nat}{A:Nat->Nat->Cq}(h:c01 5 numC V p (matL n n A))(hn:n<=32):a00 prog D08 #[p.v] V λv _=>v = .bool true:=by
 refine(G0e h (by rw[O00]; omega)).mono λv V1 _ hv => ?_;obtain⟨h1,h2,h3⟩:=S0k A hn hn;rw[hv,h1,O00];rcases Ap n with e|e
 . rw[h3 e,e]; rfl
 rw[h2 e]; simp
structure C13 (n:Nat) (Q:Cq->Prop) (qs:Nat->Nat->Cq->Prop) (qx:Nat->Cq->Prop):Prop where
 r0:∀j x,j<n->Q x->qs j 0 x
 r1:∀j i s a x,j<n->i<j->qs j i s->Q a->qx j x->qs j (i+1) (numO.sub s (numO.mul a x))
 r2:∀j s a,j<n->qs j j s->Q a->qx (j+1) (numO.div s a)
 r3:∀j x,j<n->qx j x->qx (j+1) x
 k1:∀x,Q x->okN x
 k2:∀j i s,j<n->i<=j->qs j i s->okN s
 k3:∀j x,j<=n->qx j x->okN x
theorem n0h{V:View}{p q:Sl}{n:Nat}{A:Nat->Nat->Cq}{b:Nat->Cq}(h:c01 5 numC V p (matL n n A))(hb:n00 5 numC V q (rowL n b))(hn:n<=32)
 (Q:Nat->Cq->Prop) (q1:∀c x,c<=n->Q c x->okN x) (q2:∀c x y z u,Q c x->Q c y->Q c z->Q c u->Q (c+1) (numO.sub x (numO.mul (numO.div y z) u))) (q3:∀c x,Q c x->Q (c+1) x)
 (hA:∀i j,i<n->j<n->Q 0 (A i j)) (hB:∀i,i<n->Q 0 (b i)) (qs:Nat->Nat->Cq->Prop) (qx:Nat->Cq->Prop) (hk:C13 n (Q n) qs qx) :
 a00 prog m0a #[p.v,q.v] V λv V'=>∃r:Sl,match (elim numO n (n+1) (d09 A n λ_ i=>b i)).2.2 with
  | none=>v = .tuple #[r.v,.int .i64 0]/\n00 5 numC V' r (rowL n (w08 numO Cq.zero (elim numO n (n+1) (d09 A n λ_ i=>b i)).1 n n))
  | some _=>v = .tuple #[r.v,.int .i64 6]/\r=⟨none,0,0⟩:=by
 have hpl:p.len=n:=by have:=h.len; rw[O00]at this; exact this
 have hql:q.len=n:=by have:=hb.len; rw[B00]at this; exact this
 let W:=d09 A n λ_ i=>b i
 let B:=(elim numO n (n+1) W).1;have hWQ:∀i j,i<n->j<n+1->Q 0 (W i j):=by
  intro i j hi hj;show Q 0 (if j<n then A i j else b i)
  split
  . exact hA i j hi (by assumption)
  exact hB i hi
 have hBQ:∀i j,i<n->j<n+1->Q n (B i j):=t0k numO Q n (n+1) q2 q3 n 0 W 0 (by omega) (by omega) hWQ;refine c0e p q V _ (λ_ _ _=>True)
  (λ_ x V'=>∃j:Nat,x.t10=(n:Int)-1-j/\j<=n/\f01 5 numC V' x.o37 (rowL n (w08 numO Cq.zero B n j))/\∀i,n-j<=i->i<n->qx j (w08 numO Cq.zero B n j i))
  (λ_ x _=>(x.t10+1).toNat)
  (λc x V'=>∃j i:Nat,c.t10=(n:Int)-1-j/\j<n/\x.t12=(n:Int)-j+i/\i<=j/\f01 5 numC V' x.o37 (rowL n (w08 numO Cq.zero B n j))/\(∀i,n-j<=i->i<n->qx j (w08 numO Cq.zero B n j i)) /\
    atN V' x.o11 (E0l numO B (w08 numO Cq.zero B n j) (n-(j+1)) n i)/\qs j i (E0l numO B (w08 numO Cq.zero B n j) (n-(j+1)) n i))
  (λ_ x _=>n-x.t12.toNat) ?_
 rw[hpl,hql];refine⟨(k15 h hn).mono λv V2 l2 hv=>⟨true,hv,λhf=>absurd hf (by simp),λ_=>⟨λhf=>absurd hf (by simp),λ_=>trivial⟩⟩,?_⟩;rintro⟨u⟩ V1 l1 -;intro b3 V5 l5 _ hb3;have hmore:c01 5 numC V5 ⟨some (Addr.mk b3 0 none),1,1⟩ (matL 1 n λ_ i=>b i):=by
  have hb5:n00 5 numC V5 q (rowL n b):=hb.le (Hh (Gx l1 l5)) (Gx l1 l5);refine n00.of_block (o:=[q.v]) (o':=[]) (b:=b3) (λ_=>by simpa using hb3) ?_ (by rw[O00]) (An9 _) (λ_=>rfl);exact⟨[q.v],[],rfl,rfl,⟨q,rfl,hb5⟩,rfl⟩
 refine(f0g (h.le Hh (Gx l1 l5)) hmore (by omega) (by omega) (by omega)).mono λv m1 V6 l6 _ ⟨r2,hv,hM⟩=>⟨r2,hv,?_⟩;refine(N0d Q hM (by omega) (by omega) q1 q2 q3 hWQ).mono λv m2 V7 l7 _ ⟨hv,hM2⟩=>⟨_,_,hv,by decide,λV8 l8 hpub => ?_⟩;have hRB:c01 5 numC V8 r2 (matL n (n+1) B):=hM2.known (Hh l8) hpub;have hr2:r2.len=n:=by have:=hRB.len; rw[O00]at this; exact this
 cases hstop:(elim numO n (n+1) W).2.2 with
 | some c =>
   exact⟨λ_=>⟨⟨none,0,0⟩,rfl,rfl⟩,λhf=>absurd hf (by simp)⟩
 | none =>
   have hdiag:=L0h numO n (n+1) n 0 W 0 (by omega) (λi hi=>absurd hi (by omega)) hstop;refine⟨λhf=>absurd hf (by simp),λ_ => ?_⟩;refine⟨⟨by omega,by omega,by omega,by omega⟩,⟨0,by rw[i64w (by omega) (by omega)]; show(n:Int)-1=_; omega,by omega,?_,λi h1 h2=>by omega⟩,?_⟩
   . have:=f01.replicate (sz:=5) (P:=numC) (V:=V8) rfl (zeroN V8) n;rw[Aa];have e:rowL n (w08 numO Cq.zero B n 0)=List.replicate n Cq.zero:=J0h n Cq.zero;rw[e]; exact this
   rintro⟨t10,o37⟩ V9 l9 ⟨j,e10,hj,hC,hx⟩;dsimp only at e10 hC ⊢;refine⟨λhge => ?_,λhlt => ?_⟩
   . have hjn:j<n:=by simp at hge; omega
     have ec:t10.toNat=n-(j+1):=by omega
     obtain⟨g1,s1,g2,g3⟩:=(hRB.le Hh l9).row (t:=t10) (by omega) (row:=rowL (n+1) (B (n-(j+1)))) (by rw[ec]; exact W06 (by omega) B);obtain⟨c1,x,hxx,hxl,hh,hs⟩:=Hf g3 (t:=(n:Int)) (by omega) (z:=B (n-(j+1)) n) (by rw[Aa]; exact M04 (by omega) _);obtain⟨y,ey,hy⟩:=elN hxx;subst ey;refine⟨g1,s1,g2,c1,y,hh,hs,⟨j,0,e10,hjn,by rw[i64w (by omega) (by omega)]; omega,by omega,hC,hx,hy,hk.r0 j _ hjn (hBQ _ _ (by omega) (by omega))⟩,?_⟩;clear hh hs hxx hxl g2 g3 c1;rintro⟨t12,o11,o37'⟩ V10 l10 ⟨j',i,e10',hj',e12,hi,hC',hx',hS,hqS⟩;dsimp only at e10' e12 hC' hS ⊢;obtain rfl:j=j':=by omega
     obtain⟨g1,s1,g2,g3⟩:=(hRB.le Hh (Gx l9 l10)).row (t:=t10) (by omega) (row:=rowL (n+1) (B (n-(j+1)))) (by rw[ec]; exact W06 (by omega) B);refine⟨λhlt2 => ?_,λhge2 => ?_⟩
     . have hij:i<j:=by simp at hlt2; omega
       have ek:t12.toNat=n-(j+1)+1+i:=by omega
       obtain⟨c1,x,hxx,hxl,hh,hs⟩:=Hf g3 (t:=t12) (by omega) (z:=B (n-(j+1)) (n-(j+1)+1+i)) (by rw[ek]; exact M04 (by omega) _);obtain⟨y1,ey,hy1⟩:=elN hxx;subst ey;obtain⟨x',hx2,hxl2,hg⟩:=hC'.at (i:=t12.toNat) (z:=w08 numO Cq.zero B n j (n-(j+1)+1+i)) (by rw[ek]; exact M04 (by omega) _);obtain⟨y2,ey2,hy2⟩:=elN hx2;subst ey2;have qa:=hBQ (n-(j+1)) (n-(j+1)+1+i) (by omega) (by omega);have qX:=hx' (n-(j+1)+1+i) (by omega) (by omega);have okx:=hk.k3 j _ (by omega) qX;refine⟨g1,s1,g2,c1,y1,hh,hs,⟨by omega,by omega⟩,y2,hg,?_⟩;refine(mulN hy1 hy2 (hk.k1 _ qa) okx).mono λv V11 l11 ⟨r5,hv,h5⟩=>⟨r5,hv,?_⟩;refine(subN (atN.le l11 hS) h5 (hk.k2 j i _ hjn (by omega) hqS) (hk.k1 _ qa) okx).mono λv V12 l12 ⟨r6,hv,h6⟩=>⟨r6,hv,?_⟩;rw[i64w (by omega) (by omega)];exact⟨⟨j,i+1,e10,hjn,by omega,by omega,hC'.imp (Hh (Gx l11 l12)),hx',h6,hk.r1 j i _ _ _ hjn hij hqS qa qX⟩,by omega⟩
     have hij:i=j:=by simp at hge2; omega
     subst hij;obtain⟨c1,x,hxx,hxl,hh,hs⟩:=Hf g3 (t:=t10) (by omega) (z:=B (n-(i+1)) (n-(i+1))) (by rw[ec]; exact M04 (by omega) _);obtain⟨y1,ey,hy1⟩:=elN hxx;subst ey;have qa:=hBQ (n-(i+1)) (n-(i+1)) (by omega) (by omega);refine⟨g1,s1,g2,c1,y1,hh,hs,?_⟩;refine(divN hS hy1 (hk.k2 i i _ hjn (An9 _) hqS) (hk.k1 _ qa) (hdiag _ (by omega))).mono λv V13 l13 ⟨r7,hv,h7⟩=>⟨r7,0,hv,⟨by omega,by omega⟩,?_,?_⟩
     . rw[hC'.length,B00,ec];have e2:(n-(i+1))*5+5=(n-(i+1)+1)*5:=by rw[Bb,Ea]
       rw[Am,e2];exact Ag _ (by omega)
     rw[i64w (by omega) (by omega)];have hset:=(hC'.imp (Hh l13)).set0 (i:=n-(i+1)) (by rw[B00]; omega) (lenN r7) (y0y h7);rw[T0g]at hset;refine⟨⟨i+1,by omega,by omega,by rw[ec]; exact hset,λk h1 h2 => ?_⟩,by omega⟩;simp only[w08];by_cases e:k=n-(i+1)
     . rw[if_pos e]; exact hk.r2 i _ _ hjn hqS qa
     rw[if_neg e]; exact hk.r3 i _ hjn (hx' k (by omega) h2)
   have hjn:j=n:=by simp at hlt; omega
   subst hjn;intro b5 V14 l14 hb5;rw[Aa];refine⟨⟨some (Addr.mk b5 0 none),j,j⟩,rfl,?_⟩;exact W01 hb5 (hC.imp (Hh l14)) (by rw[B00])
def Xb(T:Nat):Nat->Nat
 | 0=>0
 | j+1=>max (Xb T j) (4*(T+j*(T+Xb T j+2))+8)
theorem D13{T:Nat}:∀ {j n:Nat},j<=n->Xb T j<=Xb T n
 | j, 0, h => by have : j = 0 := by omega
                 subst this; exact An9 _
 | j,n+1,h=>by
   by_cases e:j=n+1
   . subst e; exact An9 _
   exact Ah (D13 (j:=j) (n:=n) (by omega)) (Nat.le_max_left _ _)
theorem q11{n T:Nat}(h:T+n*(T+Xb T n+2)<=2^36)(hX:Xb T n<=2^36) :
 C13 n (λz=>z.sz<=T) (λj i s=>s.sz<=T+i*(T+Xb T j+2)) (λj x=>x.sz<=Xb T j):=by
 refine⟨λj x _ hx=>by rw[Cy]; exact hx,λj i s a x hj hi hs ha hx => ?_,λj s a hj hs ha => ?_,λj x _ hx=>Ah hx (Nat.le_max_left _ _),λx hx => ?_,λj i s hj hi hs => ?_,λj x hj hx => ?_⟩
 . have h1:=D02 a x;have h2:=s06 s (a*x);show(s-a*x).sz<=_;rw[Bb,Ea]; omega
 . have hd:(s.div a).sz<=4*(T+j*(T+Xb T j+2))+8:=E0f hs (by
     have:0<=j*(T+Xb T j+2):=Ev _;omega)
   exact Ah hd (Nat.le_max_right _ _)
 . unfold okN; omega
 . have h1:=D13 (T:=T) (j:=j) (n:=n) (by omega);have h2:i*(T+Xb T j+2)<=n*(T+Xb T n+2):=El (by omega) (by omega);unfold okN; omega
 have h1:=D13 (T:=T) (j:=j) (n:=n) hj;unfold okN; omega
def qN(S:Nat)(c:Nat)(z:Cq):Prop:=z.sz+2<=(S+2)*6^c
theorem qN_2{S:Nat}(c:Nat)(x y z u:Cq)(hx:qN S c x)(hy:qN S c y)(hz:qN S c z)(hu:qN S c u):qN S (c+1) (numO.sub x (numO.mul (numO.div y z) u)):=by
 unfold qN at *;rw[Ba];have e:(S+2)*(6^c*6)=((S+2)*6^c)*6:=by rw[Bj]
 rw[e];generalize (S+2)*6^c=T at *;have h1:(y.div z).sz<=4*(T-2)+8:=E0f (by omega) (by omega);have h2:=D02 (y.div z) u;have h3:=s06 x (y.div z*u);show(x-y.div z*u).sz+2<=_;omega
theorem qN_3{S:Nat}(c:Nat)(x:Cq)(hx:qN S c x):qN S (c+1) x:=by
 unfold qN at *;rw[Ba];have e:(S+2)*(6^c*6)=((S+2)*6^c)*6:=by rw[Bj]
 omega
theorem qN_1{S n:Nat}(h:(S+2)*6^n<=2^36)(c:Nat)(x:Cq)(hc:c<=n)(hx:qN S c x):okN x:=by
 unfold qN at hx;have:(S+2)*6^c<=(S+2)*6^n:=Cv _ (Ar (by omega) hc);unfold okN; omega
def augN(n:Nat)(A:Nat->Nat->Cq)(b:Nat->Cq):Nat->Nat->Cq:=d09 A n λ_ i=>b i
theorem P0s{V:View}{p q:Sl}{n:Nat}{A:Nat->Nat->Cq}{b:Nat->Cq}(S:Nat)(h:c01 5 numC V p (matL n n A))(hb:H01 V q (rowL n b))(hn:n<=32)(hA:∀i j,i<n->j<n->(A i j).sz<=S)(hB:∀i,i<n->(b i).sz<=S)
 (hS:(S+2)*6^n+n*((S+2)*6^n+Xb ((S+2)*6^n) n+2)<=2^36) (hX:Xb ((S+2)*6^n) n<=2^36) :
 a00 prog m0a #[p.v,q.v] V λv V'=>∃r:Sl,match (elim numO n (n+1) (augN n A b)).2.2 with
  | none=>v = .tuple #[r.v,.int .i64 0]/\H01 V' r (rowL n (w08 numO Cq.zero (elim numO n (n+1) (augN n A b)).1 n n))/\∀i,i<n->(w08 numO Cq.zero (elim numO n (n+1) (augN n A b)).1 n n i).sz<=Xb ((S+2)*6^n) n
  | some _=>v = .tuple #[r.v,.int .i64 6]/\r=⟨none,0,0⟩:=by
 have q0:∀ {z:Cq},z.sz<=S->qN S 0 z:=λhz=>by unfold qN; rw[Eo]; omega
 have qT:∀ {z:Cq},qN S n z->z.sz<=(S+2)*6^n:=λhz=>by unfold qN at hz; omega
 have hk:=q11 (T:=(S+2)*6^n) hS hX;have hk':C13 n (qN S n) (λj i s=>s.sz<=(S+2)*6^n+i*((S+2)*6^n+Xb ((S+2)*6^n) j+2)) (λj x=>x.sz<=Xb ((S+2)*6^n) j) :=
  ⟨λj x hj hx=>hk.r0 j x hj (qT hx),λj i s a x hj hi hs ha hx=>hk.r1 j i s a x hj hi hs (qT ha) hx,λj s a hj hs ha=>hk.r2 j s a hj hs (qT ha),hk.r3,λx hx=>hk.k1 x (qT hx),hk.k2,hk.k3⟩
 have hok:∀c x,c<=n->qN S c x->okN x:=qN_1 (by omega);refine(n0h h hb hn (qN S) hok qN_2 qN_3 (λi j hi hj=>q0 (hA i j hi hj)) (λi hi=>q0 (hB i hi)) _ _ hk').mono λv V' _ ⟨r,hr⟩=>⟨r,?_⟩;unfold augN;cases e:(elim numO n (n+1) (d09 A n λ_ i=>b i)).2.2 with
 | some c=>rw[e]at hr; exact hr
 | none =>
   rw[e]at hr;refine⟨hr.1,hr.2,λi hi => ?_⟩;have hBQ:∀i j,i<n->j<n+1->qN S n ((elim numO n (n+1) (d09 A n λ_ i=>b i)).1 i j):=t0k numO (qN S) n (n+1) qN_2 qN_3 n 0 _ 0 (by omega) (by omega) λi j hi hj=>by
    show qN S 0 (if j<n then A i j else b i)
    split
    . exact q0 (hA i j hi (by assumption))
    exact q0 (hB i hi)
   have key:∀j,j<=n->∀i,n-j<=i->i<n->(w08 numO Cq.zero (elim numO n (n+1) (d09 A n λ_ i=>b i)).1 n j i).sz<=Xb ((S+2)*6^n) j:=by
    intro j
    induction j with
    | zero=>intro _ i h1 h2; omega
    | succ j ih =>
      intro hj i h1 h2;have ih:=ih (by omega);simp only[w08];by_cases e:i=n-(j+1)
      . rw[if_pos e];refine hk'.r2 j _ _ (by omega) ?_ (hBQ _ _ (by omega) (by omega));have bs:∀k,k<=j->(E0l numO (elim numO n (n+1) (d09 A n λ_ i=>b i)).1 (w08 numO Cq.zero (elim numO n (n+1) (d09 A n λ_ i=>b i)).1 n j) (n-(j+1)) n k).sz<=(S+2)*6^n+k*((S+2)*6^n+Xb ((S+2)*6^n) j+2):=by
         intro k
         induction k with
         | zero=>intro _; exact hk'.r0 j _ (by omega) (hBQ _ _ (by omega) (by omega))
         | succ k ihk=>intro hkj; exact hk'.r1 j k _ _ _ (by omega) (by omega) (ihk (by omega)) (hBQ _ _ (by omega) (by omega)) (ih _ (by omega) (by omega))
        exact bs j (An9 j)
      rw[if_neg e]; exact hk'.r3 j _ (by omega) (ih i (by omega) h2)
   exact key n (An9 n) i (by omega) hi
def adjQ(A:Nat->Nat->Cq):Nat->Nat->Cq:=λk i=>(A i k).conj
theorem b0r{V:View}{p:Sl}{n w:Nat}{A:Nat->Nat->Cq}(h:c01 5 numC V p (matL n w A))(h0:0<n)(hn:n<=32)(hw:w<=32) :
 a00 prog H0d #[p.v] V λv V'=>∃r:Sl,v = .tuple #[r.v,.int .i64 0]/\c01 5 numC V' r (matL w n (adjQ A)):=by
 have hl:p.len=n:=by have:=h.len; rw[O00]at this; exact this
 obtain⟨e1,e2,_⟩:=S0k A hn hw;have e2:=e2 h0;refine j0d p V _
  (λ_ x V'=>∃k:Nat,x.t20=k/\k<=w/\x.o17.length=w/\x04 5 numC x.o0 V' x.o17 w (λi=>if i<k then rowL n (adjQ A i)else [])) (λ_ x _=>w-x.t20.toNat)
  (λc x V'=>∃k j:Nat,c.t20=k/\c.t7=k/\k<w/\x.t25=j/\j<=n/\x.o17.length=w/\x04 5 numC x.o0 V' x.o17 w (λi=>if i<k then rowL n (adjQ A i)else if i=k then rowL j (adjQ A k)else [])) (λ_ x _=>n-x.t25.toNat) ?_
 refine(s0a h (by rw[O00]; omega)).mono λv V1 l1 hv=>⟨_,_,hv,λhf => ?_,λ_ => ?_⟩
 . rw[e1]at hf; simp at hf
 rw[e2,hl,Aa];refine⟨⟨by omega,by omega,by omega,by omega⟩,⟨0,rfl,by omega,by simp,?_⟩,?_⟩
 . rw[f10]; exact(e0i V1 w).congr λi _=>by rw[if_neg (by omega)]
 rintro⟨t20,o0,o17⟩ V3 l3 ⟨k,ek,hk,hol,hR⟩;dsimp only at ek hol hR ⊢;subst ek;refine⟨λhlt=>⟨⟨k,0,rfl,rfl,by simp at hlt; omega,rfl,by omega,hol,hR.congr λi hi => ?_⟩,?_⟩,λhge => ?_⟩
 . by_cases e:i<k
   . rw[if_pos e,if_pos e]
   rw[if_neg e,if_neg e];split<;>rfl
 . rintro⟨t25,o0',o17'⟩ V4 l4 ⟨k',j,ek,_,hkw,ej,hj,hol',hR'⟩;dsimp only at ek ej hol' hR' ⊢;obtain rfl:k=k':=by omega
   subst ej;refine⟨λhlt2 => ?_,λhge2 => ?_⟩
   . have hjn:j<n:=by simp at hlt2; omega
     obtain⟨s3,e3,r1,r2,r3,⟨o3,r4,r5,r6⟩,r7⟩:=hR'.row (i:=k) hkw;rw[if_neg (by omega),if_pos rfl]at r1 r6;rw[B00]at r1;obtain⟨g1,s,g2,g3⟩:=(h.le Hh (Gx l1 (Gx l3 l4))).row (t:=(j:Int)) (by omega) (row:=rowL w (A j)) (by rw[Aa]; exact W06 hjn A);rw[hl]at g1;obtain⟨d1,x,hx,hxl,hh,hs⟩:=Hf g3 (t:=(k:Int)) (by omega) (z:=A j k) (by rw[Aa]; exact M04 hkw _);obtain⟨y,rfl,hy⟩:=hx;refine⟨⟨by omega,by omega⟩,s3,by rw[Aa,Ct,Am]; exact e3,g1,s,.inr g2,d1,y,.inr hh,hs,(Y0g hy).mono λv V5 l5 ⟨r,hv,hr⟩=>⟨r,hv,λb2 V6 l6 _ hb2 => ?_⟩⟩;have hnew:V6.has (some (Addr.mk b2 0 none)) r.val.cells.toList:=e05 (cs:=r.val.cells.toList) (j:=0) hb2 (λi v hv=>by rw[Am]; exact hv) rfl;have hrc:numC V6 r.val.cells.toList (adjQ A k j):=⟨r,rfl,hr.le l6⟩;refine⟨o3,_,⟨r2,r3⟩,P0d (Gx l5 l6) r4,r5,.inr hnew,rfl,oneN hrc,by unfold maxLen; omega,by omega,λ_ h2=>r7 1 (by omega) h2,λa1 c1 m1 ha=>⟨⟨by omega,by omega⟩,by rw[hol',Aa]; omega,?_⟩⟩;have:=(hR'.le Hh (Gx l5 l6)).app (i:=k) hkw e3 (z:=adjQ A k j) rfl hrc (o':=o3) (by rw[if_neg (by omega),if_pos rfl]; exact r6.imp (Hh (Gx l5 l6))) ha;rw[i64w (by omega) (by omega)];refine⟨⟨k,j+1,rfl,rfl,hkw,by omega,by omega,by simp[hol'],?_⟩,by omega⟩;have e1:(0+Int.toNat (k:Int)*1)=k:=by omega
     rw[e1];refine this.congr λi hi => ?_;by_cases e:i=k
     . subst e;simp only[Az,Fs9,At9];exact K0c _ _
     simp only[if_neg e]
   have e:j=n:=by simp at hge2; omega
   subst e;rw[i64w (by omega) (by omega)];refine⟨⟨k+1,by omega,by omega,hol',hR'.congr λi hi => ?_⟩,by omega⟩;by_cases e:i<k
   . rw[if_pos e,if_pos (by omega)]
   rw[if_neg e];by_cases e2:i=k
   . subst e2; rw[if_pos rfl,if_pos (by omega)]
   rw[if_neg e2,if_neg (by omega)]
 have e:k=w:=by simp at hge; omega
 subst e;refine⟨by decide,λV7 l7 hpub b5 V8 l8 hb5=>⟨_,rfl,?_⟩⟩;have hR2:x04 5 numC o0 V3 o17 k (λi=>rowL n (adjQ A i)):=hR.congr λi hi=>by rw[if_pos hi]
 exact hR2.knownL Hh hol (Gx l7 l8) (λb cs hb=>l8 b cs (hpub b cs hb)) hb5
def nrmA(n:Nat)(A:Nat->Nat->Cq):Nat->Nat->Cq:=λi j=>sq (λk=>adjQ A i k*A k j) 0 n
def nrmB(n:Nat)(A:Nat->Nat->Cq)(b:Nat->Cq):Nat->Cq:=λi=>sq (λk=>adjQ A i k*b k) 0 n
theorem E13{f:Nat->Cq}{S:Nat}:∀(j:Nat),(∀k,k<j->(f k).sz<=S)->(sq f 0 j).sz<=1+j*(S+1)
 | 0,_=>by have:=K06; show Cq.zero.sz<=_; omega
 | j+1,h=>by
   have ih:=E13 j λk hk=>h k (by omega)
   have h1:=q06 (sq f 0 j) (f (0+j));have h2:=h (0+j) (by omega);rw[sq,Bb]; omega
theorem U0y{n:Nat}{A:Nat->Nat->Cq}{S w:Nat}(h:∀i j,i<n->j<w->(A i j).sz<=S)(m:Nat)(hm:m<=n)(i j:Nat)(hi:i<w)(hj:j<w):(sq (λk=>adjQ A i k*A k j) 0 m).sz<=1+n*(2*S+2):=by
 have:=E13 (f:=λk=>adjQ A i k*A k j) (S:=2*S+1) m λk hk=>by
  have h1:=D02 (adjQ A i k) (A k j);have h2:=h k i (by omega) hi;have h3:=h k j (by omega) hj;have h4:(adjQ A i k).sz=(A k i).sz:=i0f _;omega
 have h2:m*(2*S+1+1)<=n*(2*S+2):=El hm (by omega);omega
theorem W0y{n:Nat}{A:Nat->Nat->Cq}{b:Nat->Cq}{S w:Nat}(h:∀i j,i<n->j<w->(A i j).sz<=S)(hb:∀i,i<n->(b i).sz<=S)(m:Nat)(hm:m<=n)(i:Nat)(hi:i<w):(sq (λk=>adjQ A i k*b k) 0 m).sz<=1+n*(2*S+2):=by
 have:=E13 (f:=λk=>adjQ A i k*b k) (S:=2*S+1) m λk hk=>by
  have h1:=D02 (adjQ A i k) (b k);have h2:=h k i (by omega) hi;have h3:=hb k (by omega);have h4:(adjQ A i k).sz=(A k i).sz:=i0f _;omega
 have h2:m*(2*S+1+1)<=n*(2*S+2):=El hm (by omega);omega
theorem b0w{V:View}{p q:Sl}{n w:Nat}{A:Nat->Nat->Cq}{b:Nat->Cq}(S:Nat)(h:c01 5 numC V p (matL n w A))(hb:H01 V q (rowL n b))(h0:0<n)(hn:n<=32)(hw:w<=32)
 (hA:∀i j,i<n->j<w->(A i j).sz<=S) (hB:∀i,i<n->(b i).sz<=S) (T:Nat) (hT:T=1+n*(2*S+2))
 (hS:(T+2)*6^w+w*((T+2)*6^w+Xb ((T+2)*6^w) w+2)<=2^36) (hX:Xb ((T+2)*6^w) w<=2^36) :
 a00 prog I0r #[p.v,q.v] V λv V'=>∃r:Sl,match (elim numO w (w+1) (augN w (nrmA n A) (nrmB n A b))).2.2 with
  | none=>v = .tuple #[r.v,.int .i64 0]/\H01 V' r (rowL w (w08 numO Cq.zero (elim numO w (w+1) (augN w (nrmA n A) (nrmB n A b))).1 w w)) /\
      ∀i,i<w->(w08 numO Cq.zero (elim numO w (w+1) (augN w (nrmA n A) (nrmB n A b))).1 w w i).sz<=Xb ((T+2)*6^w) w
  | some _=>v = .tuple #[r.v,.int .i64 6]/\r=⟨none,0,0⟩:=by
 have hl:p.len=n:=by have:=h.len; rw[O00]at this; exact this
 have hql:q.len=n:=by have:=hb.len; rw[B00]at this; exact this
 have hpw:0<6^w:=Bi (by omega);have hTb:T+2<=2^36:=by
  have:(T+2)*1<=(T+2)*6^w:=Cv _ hpw;omega
 have hSb:2*S+2<=2^36:=by
  have:1*(2*S+2)<=n*(2*S+2):=Ag _ h0;omega
 have hcsz:∀i k,i<w->k<n->(adjQ A i k).sz<=S:=λi k hi hk=>by rw[show(adjQ A i k).sz=(A k i).sz from i0f _]; exact hA k i hk hi
 refine Y0p p q V _ (λ_ _ _=>True)
  (λ_ x V'=>∃i:Nat,x.t38=i/\i<=w/\x.o32.length=w/\x04 5 numC x.o0 V' x.o32 w (λr=>if r<i then rowL w (nrmA n A r)else [])/\f01 5 numC V' x.o35 (rowL w λr=>if r<i then nrmB n A b r else Cq.zero))
  (λ_ x _=>w-x.t38.toNat)
  (λc x V'=>∃i j:Nat,c.t38=i/\c.t10=i/\i<w/\x.t45=j/\j<=w/\x.o32.length=w/\x04 5 numC x.o0 V' x.o32 w (λr=>if r<i then rowL w (nrmA n A r)else if r=i then rowL j (nrmA n A i)else []) /\
    f01 5 numC V' x.o35 (rowL w λr=>if r<i then nrmB n A b r else Cq.zero))
  (λ_ x _=>w-x.t45.toNat)
  (λc x V'=>∃i j k:Nat,c.t38=i/\c.t10=i/\i<w/\c.t45=j/\c.t12=j/\j<w/\x.t50=k/\k<=n/\x.o32.length=w/\x04 5 numC x.o0 V' x.o32 w (λr=>if r<i then rowL w (nrmA n A r)else if r=i then rowL j (nrmA n A i)else []) /\
    f01 5 numC V' c.o35 (rowL w λr=>if r<i then nrmB n A b r else Cq.zero)/\Q00 V' x.o13 (sq (λk=>adjQ A i k*A k j) 0 k))
  (λ_ x _=>n-x.t50.toNat)
  (λc x V'=>∃i k:Nat,c.t38=i/\c.t10=i/\i<w/\x.t81=k/\k<=n/\c.o32.length=w/\x04 5 numC c.o0 V' c.o32 w (λr=>if r<i+1 then rowL w (nrmA n A r)else []) /\
    f01 5 numC V' x.o35 (rowL w λr=>if r<i then nrmB n A b r else if r=i then sq (λk=>adjQ A i k*b k) 0 k else Cq.zero))
  (λ_ x _=>n-x.t81.toNat) ?_
 refine(b0r h h0 hn hw).mono λv V1 l1 ⟨r1,hv,hr1⟩=>⟨r1,0,hv,⟨λhf=>absurd hf (by simp),λ_=>⟨λhf => ?_,λ_=>trivial⟩⟩,?_⟩
 . rw[hl,hql]at hf; simp at hf
 have hrl:r1.len=w:=by have:=hr1.len; rw[O00]at this; exact this
 rintro⟨u⟩ V2 l2 -;rw[hrl,hl];have hz:(List.replicate (Int.toNat (w:Int)) [Value.bool false,Value.slice none 0 0,Value.bool false,Value.slice none 0 0,Value.slice none 0 0]).flatten.length=w*5:=by simp
 refine⟨⟨by omega,by omega,by omega,by omega⟩,⟨by omega,by omega,by omega,by omega⟩,⟨0,rfl,by omega,by simp,?_,?_⟩,?_⟩
 . rw[f10,Aa]; exact(e0i V2 w).congr λi _=>by rw[if_neg (by omega)]
 . have e:(rowL w λr=>if r<0 then nrmB n A b r else Cq.zero)=List.replicate w Cq.zero:=by
     rw[<-J0h]; exact I06 λk _=>by rw[if_neg (by omega)]
   rw[e,Aa]; exact u05.zeros V2 w
 rintro⟨t38,o0,o32,o35⟩ V5 l5 ⟨i,ei,hi,hol,hR,hC⟩;dsimp only at ei hol hR hC ⊢;subst ei;refine⟨λhlt => ?_,λhge => ?_⟩
 . have hiw:i<w:=by simp at hlt; omega
   have L5:=Gx l2 l5;obtain⟨g1,s,g2,g3⟩:=(hr1.le Hh L5).row (t:=(i:Int)) (by omega) (row:=rowL n (adjQ A i)) (by rw[Aa]; exact W06 hiw _);rw[hrl]at g1;have g3l:s.len=n:=by have:=g3.len; rw[B00]at this; exact this
   refine⟨g1,s,.inr g2,⟨i,0,rfl,rfl,hiw,rfl,by omega,hol,hR.congr λr _ => ?_,hC⟩,?_⟩
   . by_cases e:r<i
     . rw[if_pos e,if_pos e]
     rw[if_neg e,if_neg e]; split<;>rfl
   rintro⟨t45,o0',o32',o35'⟩ V6 l6 ⟨i',j,ei,_,_,ej,hj,hol',hR',hC'⟩;dsimp only at ei ej hol' hR' hC' ⊢;obtain rfl:i=i':=by omega
   subst ej;refine⟨λhlt2 => ?_,λhge2 => ?_⟩
   . have hjw:j<w:=by simp at hlt2; omega
     refine⟨⟨i,j,0,rfl,rfl,hiw,rfl,rfl,hjw,rfl,by omega,hol',hR',hC',Q00.zero V6⟩,?_⟩;rintro⟨t50,o0'',o13,o32''⟩ V7 l7 ⟨i',j',k,ei,_,_,ej,_,_,ek,hk,hol'',hR'',hC'',hs⟩;dsimp only at ei ej ek hol'' hR'' hC'' hs ⊢;obtain rfl:i=i':=by omega
     obtain rfl:j=j':=by omega
     subst ek;have L7:=Gx l6 l7;refine⟨λhlt3 => ?_,λhge3 => ?_⟩
     . have hkn:k<n:=by simp at hlt3; omega
       obtain⟨d1,x,⟨y,rfl,hy⟩,hxl,hh,hsm⟩:=Hf (He (Hh L7) L7 g3) (t:=(k:Int)) (by omega) (z:=adjQ A i k) (by rw[Aa]; exact M04 hkn _);obtain⟨f1,s2,f2,f3⟩:=(h.le Hh (Gx l1 (Gx L5 L7))).row (t:=(k:Int)) (by omega) (row:=rowL w (A k)) (by rw[Aa]; exact W06 hkn A);rw[hl]at f1;obtain⟨d2,x2,⟨y2,rfl,hy2⟩,hxl2,hh2,hsm2⟩:=Hf f3 (t:=(j:Int)) (by omega) (z:=A k j) (by rw[Aa]; exact M04 hjw _);have z1:=hcsz i k hiw hkn;have z2:=hA k j hkn hjw;have z3:=U0y hA k hk i j hiw hjw;have z4:=D02 (adjQ A i k) (A k j);refine⟨d1,y,.inr hh,hsm,f1,s2,.inr f2,d2,y2,.inr hh2,hsm2,(m03 hy hy2 (by omega) (by omega)).mono λv V8 l8 ⟨r3,hv,h3⟩=>⟨r3,hv,?_⟩⟩;refine(J03 (hs.le l8) h3 (by omega) (by omega)).mono λv V9 l9 ⟨r4,hv,h4⟩=>⟨r4,hv,?_⟩;rw[i64w (by omega) (by omega)];have L9:=Gx l8 l9;refine⟨⟨i,j,k+1,rfl,rfl,hiw,rfl,rfl,hjw,by omega,by omega,hol'',hR''.le Hh L9,hC''.imp (Hh L9),?_⟩,by omega⟩;rw[sq,Am]; exact h4
     have e:k=n:=by simp at hge3; omega
     subst e;obtain⟨s3,e3,r1',r2,r3,⟨o3,r4,r5,r6⟩,r7⟩:=hR''.row (i:=i) hiw;rw[if_neg (by omega),if_pos rfl]at r1' r6;rw[B00]at r1';refine⟨⟨by omega,by omega⟩,s3,by rw[Aa,Ct,Am]; exact e3,λb3 V10 l10 _ hb3 => ?_⟩;have hnew:V10.has (some (Addr.mk b3 0 none)) o13.val.cells.toList:=e05 (cs:=o13.val.cells.toList) (j:=0) hb3 (λi v hv=>by rw[Am]; exact hv) rfl;have hrc:numC V10 o13.val.cells.toList (nrmA k A i j):=⟨o13,rfl,hs.le l10⟩;refine⟨o3,_,⟨r2,r3⟩,P0d l10 r4,r5,.inr hnew,rfl,oneN hrc,by unfold maxLen; omega,by omega,λ_ h2=>r7 1 (by omega) h2,λa1 c1 m1 ha=>⟨⟨by omega,by omega⟩,by rw[hol'',Aa]; omega,?_⟩⟩;have:=(hR''.le Hh l10).app (i:=i) hiw e3 (z:=nrmA k A i j) rfl hrc (o':=o3) (by rw[if_neg (by omega),if_pos rfl]; exact r6.imp (Hh l10)) ha;rw[i64w (by omega) (by omega)];refine⟨⟨i,j+1,rfl,rfl,hiw,by omega,by omega,by simp[hol''],?_,hC''.imp (Hh l10)⟩,by omega⟩;have e1:(0+Int.toNat (i:Int)*1)=i:=by omega
     rw[e1];refine this.congr λr hr => ?_;by_cases e:r=i
     . subst e;simp only[Az,Fs9,At9];exact K0c _ _
     simp only[if_neg e]
   have ej:j=w:=by simp at hge2; omega
   subst ej;have hR4:x04 5 numC o0' V6 o32' j (λr=>if r<i+1 then rowL j (nrmA n A r)else []):=hR'.congr λr _=>by
    by_cases e:r<i
    . rw[if_pos e,if_pos (by omega)]
    rw[if_neg e];by_cases e2:r=i
    . subst e2; rw[if_pos rfl,if_pos (by omega)]
    rw[if_neg e2,if_neg (by omega)]
   refine⟨⟨i,0,rfl,rfl,hiw,rfl,by omega,hol',hR4,?_⟩,?_⟩
   . rw[I06 (g:=λr=>if r<i then nrmB n A b r else Cq.zero) (λr _=>by
       by_cases e:r<i
       . rw[if_pos e,if_pos e]
       rw[if_neg e,if_neg e]; split<;>rfl)]
     exact hC'
   rintro⟨t81,o35''⟩ V11 l11 ⟨i',k,ei,_,_,ek,hk,hol4,hR5,hC5⟩;dsimp only at ei ek hol4 hR5 hC5 ⊢;obtain rfl:i=i':=by omega
   subst ek;have L11:=Gx l6 l11;refine⟨λhlt3 => ?_,λhge3 => ?_⟩
   . have hkn:k<n:=by simp at hlt3; omega
     obtain⟨x0,⟨y0,rfl,hy0⟩,hxl0,hg0⟩:=hC5.at (i:=i) (z:=sq (λk=>adjQ A i k*b k) 0 k) (by rw[M04 hiw,if_neg (by omega),if_pos rfl]);obtain⟨d1,x,⟨y,rfl,hy⟩,hxl,hh,hsm⟩:=Hf (He (Hh L11) L11 g3) (t:=(k:Int)) (by omega) (z:=adjQ A i k) (by rw[Aa]; exact M04 hkn _);obtain⟨d2,x2,⟨y2,rfl,hy2⟩,hxl2,hh2,hsm2⟩:=Hf (hb.le (Gx l1 (Gx L5 L11))) (t:=(k:Int)) (by omega) (z:=b k) (by rw[Aa]; exact M04 hkn _);rw[hql]at d2;have z1:=hcsz i k hiw hkn;have z2:=hB k hkn;have z3:=W0y hA hB k hk i hiw;have z4:=D02 (adjQ A i k) (b k);refine⟨⟨by omega,by omega⟩,y0,by rw[Aa]; exact hg0,d1,y,.inr hh,hsm,by rw[hql]; exact d2,y2,.inr hh2,hsm2,(m03 hy hy2 (by omega) (by omega)).mono λv V12 l12 ⟨r5,hv,h5⟩=>⟨r5,hv,?_⟩⟩;refine(J03 (Q00.le l12 hy0) h5 (by omega) (by omega)).mono λv V13 l13 ⟨r6,hv,h6⟩=>⟨r6,hv,⟨by omega,by omega⟩,?_,?_⟩
     . rw[hC5.length,B00,Aa];have e2:i*5+5=(i+1)*5:=by omega
       rw[Am,e2]; exact Ag _ hiw
     have L13:=Gx l12 l13;rw[i64w (by omega) (by omega)];refine⟨⟨i,k+1,rfl,rfl,hiw,by omega,by omega,hol4,hR5.le Hh L13,?_⟩,by omega⟩;have hset:=(hC5.imp (Hh L13)).set0 (i:=i) (by rw[B00]; exact hiw) (lenN r6) (y0y h6);rw[T0g]at hset;rw[Aa];rw[I06 (g:=λr=>if r<i then nrmB n A b r else if r=i then sq (λk=>adjQ A i k*b k) 0 (k+1)else Cq.zero) (λr _=>by
      by_cases e:r=i
      . subst e; rw[if_pos rfl,if_neg (by omega),if_pos rfl,sq,Am]
      rw[if_neg e,if_neg e,if_neg e])]at hset
     exact hset
   have e:k=n:=by simp at hge3; omega
   subst e;rw[i64w (by omega) (by omega)];refine⟨⟨i+1,by omega,by omega,hol4,hR5,?_⟩,by omega⟩;rw[I06 (g:=λr=>if r<i then nrmB k A b r else if r=i then sq (λk=>adjQ A i k*b k) 0 k else Cq.zero) (λr _=>by
    by_cases e:r<i
    . rw[if_pos e,if_pos (by omega)]
    rw[if_neg e];by_cases e2:r=i
    . subst e2; rw[if_pos rfl,if_pos (by omega)]; rfl
    rw[if_neg e2,if_neg (by omega)])]
   exact hC5
 have ei:i=w:=by simp at hge; omega
 subst ei;refine⟨by decide,λV14 l14 hpub b6 V15 l15 hb6 b7 V16 l16 hb7 => ?_⟩;have hR2:x04 5 numC o0 V5 o32 i (λr=>rowL i (nrmA n A r)):=hR.congr λr hr=>by rw[if_pos hr]
 have L16:=Gx l14 (Gx l15 l16);have hM:c01 5 numC V16 ⟨some ⟨b6,0,none⟩,i,i⟩ (matL i i (nrmA n A)):=hR2.knownL Hh hol L16 (λb cs hb=>l16 b cs (l15 b cs (hpub b cs hb))) (l16 _ _ hb6);rw[I06 (g:=nrmB n A b) (λr hr=>by rw[if_pos hr])]at hC;have hv':H01 V16 ⟨some ⟨b7,0,none⟩,i,i⟩ (rowL i (nrmB n A b)):=W01 hb7 (hC.imp (Hh L16)) (by rw[B00]);rw[Aa];have tA:∀r j,r<i->j<i->(nrmA n A r j).sz<=T:=λr j h1 h2=>by rw[hT]; exact U0y hA n (An9 n) r j h1 h2
 have tB:∀r,r<i->(nrmB n A b r).sz<=T:=λr h1=>by rw[hT]; exact W0y hA hB n (An9 n) r h1
 refine(P0s T hM hv' hw tA tB hS hX).mono λv V17 l17 ⟨r7,h7⟩ => ?_;cases e:(elim numO i (i+1) (augN i (nrmA n A) (nrmB n A b))).2.2 with
 | none=>rw[e]at h7; exact⟨r7,0,h7.1,r7,rfl,h7.2⟩
 | some c=>rw[e]at h7; exact⟨r7,6,h7.1,r7,rfl,h7.2⟩
theorem T0k{V:View}(s:M03):a00 prog O0i #[s.val] V λv _=>v=(O04.mk s.x s.y s.z).val:=F0h s V _ rfl
theorem o0h{V:View}(a:O04):a00 prog J0r #[a.val] V λv _=>v=(M03.mk a.e0 a.e1 a.e2).val :=
 Z0p a V _ ⟨⟨by omega,by omega⟩,⟨by omega,by omega⟩,⟨by omega,by omega⟩,rfl⟩
theorem Q0s{V:View}{s:M03}{p:P3}(h:l07 V s p):a00 prog k0c #[s.val] V λv _=>v = .bool (!p.real):=by
 refine W0j s V _ ((I02 h.x).mono λv V1 l1 hv=>⟨_,hv,λh1 => ?_,λh1 => ?_⟩)
 . have:decide (p.x.im=0)=false:=by simpa using h1
   unfold P3.real; rw[this]; rfl
 have e1:decide (p.x.im=0)=true:=by simpa using h1
 refine(I02 (h.y.le l1)).mono λv V2 l2 hv=>⟨_,hv,λh2 => ?_,λh2 => ?_⟩
 . have:decide (p.y.im=0)=false:=by simpa using h2
   unfold P3.real; rw[e1,this]; rfl
 have e2:decide (p.y.im=0)=true:=by simpa using h2
 refine(I02 (h.z.le (Gx l1 l2))).mono λv V3 l3 hv=>⟨_,hv,?_⟩;unfold P3.real; rw[e1,e2]; rfl
theorem S0s{V:View}{s:Sl}{ps:List P3}(h:n00 15 C0s V s ps)(hn:ps.length<=2^40)(q:Fn0) :
 a00 prog g07 #[s.v,q.val k0c] V λv _=>∃r:Int,v = .int .i64 r/\(0<=r↔∃p,p∈ps/\p.real=false):=by
 have hl:=h.len;refine d05 s q V _ (λ_ x _=>∃t:Nat,x.t8=t/\t<=ps.length/\∀p,p∈ps.take t->p.real=true) (λ_ x _=>ps.length-x.t8.toNat) ⟨⟨0,rfl,by omega,by simp⟩,?_⟩;rintro⟨t⟩ V1 l1 ⟨t',ht,htn,hi⟩;dsimp only at ht ⊢;subst ht;refine⟨λhlt => ?_,λhge => ?_⟩
 . simp only[Af]at hlt;have hk:t'<ps.length:=by omega
   obtain⟨g1,x,⟨y,rfl,hy⟩,_,hh,hs⟩:=Hf (He (C0s.le l1) l1 h) (t:=(t':Int)) (by omega) (z:=ps[t']) (by simp);refine⟨g1,y,hh,hs,(Q0s hy).mono λv V2 l2 hv=>⟨_,hv,λhr=>⟨_,rfl,?_⟩,λhr => ?_⟩⟩
   . have e:ps[t'].real=false:=by simpa using hr
     exact⟨λ_=>⟨_,Ax hk,e⟩,λ_=>by omega⟩
   have e:ps[t'].real=true:=by simpa using hr
   rw[i64w (by omega) (by omega)];refine⟨⟨t'+1,by omega,by omega,λp hp => ?_⟩,by omega⟩;rw[Ce,Ae hk]at hp;simp only[Fo,Cb,Ca]at hp;rcases hp with hp|hp
   . exact hi p hp
   subst hp; exact e
 have e:t'=ps.length:=by simp at hge; omega
 subst e;rw[Cu]at hi;exact⟨-1,rfl,λh=>absurd h (by omega),λ⟨p,h1,h2⟩=>by rw[hi p h1]at h2; simp at h2⟩
theorem d0n{V:View}{s:Sl}{ps:List P3}(h:n00 15 C0s V s ps)(hn:ps.length<=2^40):a00 prog n0i #[s.v] V λv _=>v = .bool (ps.all P3.real):=by
 refine T0n s V _ ((E04 s ⟨⟩ V _ ((S0s h hn _).mono λv V1 l1 ⟨r,hv,hr⟩=>⟨r,hv,?_⟩):a00 prog n_slices_ContainsFunc___scan_Spot_scan_Spot_ #[s.v,(Fn0.mk).val k0c] V λv _=>v = .bool (!ps.all P3.real)).mono λv V1 l1 hv=>⟨_,hv,?_⟩)
 . congr 1;rw[Bool.eq_iff_iff,Af,Du,hr];simp only[De,Fr9,Bool.not_eq_true]
 rw[Bool.not_not]
theorem X0y{V:View}{s:M03}{p:P3}(h:l07 V s p){b:Nat}(hb:V b=some s.val.cells):a00 prog n0i #[(Sl.mk (some (Addr.mk b 0 none)) 1 1).v] V λv _=>v = .bool p.real:=by
 refine(d0n (ps:=[p]) (n00.of_block (o:=s.val.cells.toList) (o':=[]) (b:=b) (λ_=>by simpa using hb) (Hd rfl ⟨s,rfl,h⟩) rfl (An9 _) (λ_=>rfl)) (by show 1<=2^40; decide)).mono λv V1 _ hv => ?_;rw[hv]; simp
theorem e0j{V:View}{s:S05}{f:F3}(h:s0b V s f):a00 prog A0g #[s.val] V λv _=>v = .bool f.real:=by
 refine X0f s V _ λb1 V1 l1 _ hb1 => ?_;have hC:f01 15 C0s V1 (s.o.val.cells.toList++(s.u.val.cells.toList++s.v.val.cells.toList)) [f.o,f.u,f.v] :=
  ⟨_,_,rfl,rfl,⟨s.o,rfl,h.o.le l1⟩,_,_,rfl,rfl,⟨s.u,rfl,h.u.le l1⟩,_,[],by simp,rfl,⟨s.v,rfl,h.v.le l1⟩,rfl⟩
 refine(d0n (ps:=[f.o,f.u,f.v]) (n00.of_block (o:=s.o.val.cells.toList++(s.u.val.cells.toList++s.v.val.cells.toList)) (o':=[]) (b:=b1) (λ_=>by rw[List.append_nil]; exact hb1) hC rfl (An9 _) (λ_=>rfl)) (by show 3<=2^40; decide)).mono λv V2 l2 hv=>⟨_,hv,?_⟩;simp[F3.real]
theorem e0n{V:View}{a b:M03}{n:NumV}{p q:P3}{f:Cq}{S T F:Nat}(hp:l07 V a p)(hf:Q00 V n f)(hq:l07 V b q)(sp:p.szle S)(sf:f.sz<=F)(sq:q.szle T)(hS:S+T+F<=2^38) :
 a00 prog y0p #[a.val,n.val,b.val] V λv V'=>∃r:M03,v=r.val/\l07 V' r (C0i p f q):=by
 obtain⟨s1,s2,s3⟩:=sp;obtain⟨t1,t2,t3⟩:=sq;let ps:List Cq:=[p.x,p.y,p.z];let qs:List Cq:=[q.x,q.y,q.z];let g:Nat->Nat->Cq:=λt i=>if i<t then nth ps i+f*nth qs i else nth ps i
 have szp:∀i,i<3->(nth ps i).sz<=S:=λi hi=>by
  have:i=0\/i=1\/i=2:=by omega
  rcases this with rfl|rfl|rfl
  . exact s1
  . exact s2
  exact s3
 have szq:∀i,i<3->(nth qs i).sz<=T:=λi hi=>by
  have:i=0\/i=1\/i=2:=by omega
  rcases this with rfl|rfl|rfl
  . exact t1
  . exact t2
  exact t3
 refine U0n a n b V _ (λ_ x V'=>∃t:Nat,x.t14=t/\t<=3/\f01 5 numC V' x.o7 (rowL 3 (g t))) (λ_ x _=>3-x.t14.toNat) ?_;refine(T0k a).mono λv V1 l1 hv=>⟨_,hv,(T0k b).mono λv V2 l2 hv=>⟨_,hv,⟨0,rfl,by omega,?_⟩,?_⟩⟩
 . have L:=Gx l1 l2;exact G0t (hp.x.le L) (hp.y.le L) (hp.z.le L)
 rintro⟨t14,o6,o7⟩ V3 l3 ⟨t,ht,h3,hC⟩;dsimp only at ht hC ⊢;subst ht;have L3:=Gx l1 (Gx l2 l3);refine⟨λhlt => ?_,λhge => ?_⟩
 . have hk:t<3:=by simp at hlt; omega
   obtain⟨x,⟨y,rfl,hy⟩,hxl,hg⟩:=hC.at (i:=t) (z:=nth ps t) (by rw[M04 hk]; show some (if t<t then _ else _)=_; rw[if_neg (by omega)])
   have hQ:f01 5 numC V3 _ qs:=G0t (hq.x.le L3) (hq.y.le L3) (hq.z.le L3);obtain⟨x2,⟨y2,rfl,hy2⟩,hxl2,hg2⟩:=hQ.at (i:=t) (z:=nth qs t) (l0k (by show t<3; exact hk));have z1:=szp t hk;have z2:=szq t hk;have z3:=D02 f (nth qs t);refine⟨⟨by omega,by omega⟩,y,by rw[Aa]; exact hg,⟨by omega,by omega⟩,y2,by rw[Aa]; exact hg2,?_⟩;refine(m03 (hf.le L3) hy2 (by omega) (by omega)).mono λv V4 l4 ⟨r3,hv,h3'⟩=>⟨r3,hv,?_⟩;refine(J03 (Q00.le l4 hy) h3' (by omega) (by omega)).mono λv V5 l5 ⟨r4,hv,h4⟩=>⟨r4,hv,⟨by omega,by omega⟩,?_,?_⟩
   . rw[hC.length,B00,Aa]; omega
   rw[i64w (by omega) (by omega)];refine⟨⟨t+1,by omega,by omega,?_⟩,by omega⟩;have hset:=(hC.imp (Hh (Gx l4 l5))).set0 (i:=t) (by rw[B00]; exact hk) (lenN r4) (y0y h4);rw[T0g]at hset;rw[Aa];rw[I06 (g:=g (t+1)) (λk _=>by
    show(if k=t then nth ps t+f*nth qs t else if k<t then nth ps k+f*nth qs k else nth ps k)=if k<t+1 then _ else _
    by_cases e:k=t
    . subst e; rw[if_pos rfl,if_pos (by omega)]
    rw[if_neg e];by_cases e2:k<t
    . rw[if_pos e2,if_pos (by omega)]
    rw[if_neg e2,if_neg (by omega)])]at hset
   exact hset
 have e:t=3:=by simp at hge; omega
 subst e;obtain⟨c,ho,h1,h2,h3⟩:=w0q (show f01 5 numC V3 o7 [(C0i p f q).x,(C0i p f q).y,(C0i p f q).z]from hC);refine⟨c,by rw[ho]; rfl,(o0h c).mono λv V6 l6 hv=>⟨_,hv,_,rfl,h1.le l6,h2.le l6,h3.le l6⟩⟩
theorem g0f{V:View}{n:Int}(h0 : -9223372036854775808<=n)(h1:n<=9223372036854775807):a00 prog u0p #[.int .i64 n] V λv V'=>∃r:NumV,v=r.val/\Q00 V' r ⟨(n:Rat),0⟩ :=
 W0n n V _ ((a02 h0 h1).mono λv V1 l1 ⟨r1,hv,h1⟩=>⟨r1,hv,r1,rfl,h1⟩)
theorem c0w{V:View}{s:S05}{a b:NumV}{f:F3}{i j:Cq}{S T:Nat}(h:s0b V s f)(hi:Q00 V a i)(hj:Q00 V b j)(sf:f.szle S)(si:i.sz<=T)(sj:j.sz<=T)(hS:3*S+2*T<=2^37) :
 a00 prog B0g #[s.val,a.val,b.val] V λv V'=>∃r:M03,v=r.val/\l07 V' r (C0f f i j):=by
 refine Y0f s a b V _ ((e0n h.o hi h.u sf.o si sf.u (by omega)).mono λv V1 l1 ⟨r1,hv,h1⟩=>⟨r1,hv,?_⟩);exact(e0n h1 (hj.le l1) (h.v.le l1) (W0x sf.o sf.u si) sj sf.v (by omega)).mono λv V2 l2 ⟨r2,hv,h2⟩=>⟨r2,hv,r2,rfl,h2⟩
def U0k(f:F3)(i j:Cq):Bool:=f.real&&(decide (i.im=0)&&decide (j.im=0))
theorem d0w{V:View}{s:S05}{a b:NumV}{f:F3}{i j:Cq}{S T:Nat}(h:s0b V s f)(hi:Q00 V a i)(hj:Q00 V b j)(sf:f.szle S)(si:i.sz<=T)(sj:j.sz<=T)(hS:3*S+2*T<=2^37) :
 a00 prog q0p #[s.val,a.val,b.val] V λv V'=>∃r:M03,v = .tuple #[r.val,.int .i64 (if U0k f i j=true then 0 else 1)]/\l07 V' r (if U0k f i j=true then C0f f i j else P3.zero):=by
 unfold U0k;refine X0n s a b V _ ((e0j h).mono λv V1 l1 hv=>⟨_,hv,λhr => ?_,λhr => ?_⟩)
 . have e:f.real=false:=by simpa using hr
   rw[e]; exact⟨⟨zN,zN,zN⟩,rfl,l07.zero V1⟩
 have e:f.real=true:=by simpa using hr
 rw[e];refine(I02 (hi.le l1)).mono λv V2 l2 hv=>⟨_,hv,λhr => ?_,λhr => ?_⟩
 . have e:decide (i.im=0)=false:=by simpa using hr
   rw[e]; exact⟨⟨zN,zN,zN⟩,rfl,l07.zero V2⟩
 have e:decide (i.im=0)=true:=by simpa using hr
 rw[e];have L2:=Gx l1 l2;refine(I02 (hj.le L2)).mono λv V3 l3 hv=>⟨_,hv,λhr => ?_,λhr => ?_⟩
 . have e:decide (j.im=0)=false:=by simpa using hr
   rw[e]; exact⟨⟨zN,zN,zN⟩,rfl,l07.zero V3⟩
 have e:decide (j.im=0)=true:=by simpa using hr
 rw[e];have L3:=Gx L2 l3;exact(c0w (h.le L3) (hi.le L3) (hj.le L3) sf si sj hS).mono λv V4 l4 ⟨r4,hv,h4⟩=>⟨r4,hv,r4,rfl,h4⟩
theorem c0r{V:View}{a b c:NumV}{x y z:Cq}{S:Nat}(ha:Q00 V a x)(hb:Q00 V b y)(hc:Q00 V c z)(sx:x.sz<=S)(sy:y.sz<=S)(sz:z.sz<=S)(hS:S<=2^30) :
 a00 prog M0r #[a.val,b.val,c.val] V λv V'=>∃r:NumV,v=r.val/\Q00 V' r (z0e x y z):=by
 have s1:=s06 x y; have s2:=s06 z y;refine a0q a b c V _ ((D07 ha hb (by omega) (by omega)).mono λv V1 l1 ⟨r1,hv,h1⟩=>⟨r1,hv,?_⟩);refine(D07 (hc.le l1) (hb.le l1) (by omega) (by omega)).mono λv V2 l2 ⟨r2,hv,h2⟩=>⟨r2,hv,?_⟩;refine(U09 (h1.le l2) h2 (by omega) (by omega)).mono λv V3 l3 ⟨r3,e,hv,hz,hn⟩=>⟨r3,e,hv,r3,rfl,?_⟩;by_cases g:z-y=Cq.zero
 . have e1:z0e x y z=Cq.zero:=by
     unfold z0e; rw[g];refine Hb ?_ ?_<;>simp only[Cq.div,Cq.norm,Cq.zero,Rat.mul_zero,Rat.add_zero,Bm,Rat.inv_zero]
   rw[e1]; exact(hz g).2
 exact(hn g).2
theorem d0r{V:View}{a b c:NumV}{x y z:Cq}{S:Nat}(ha:Q00 V a x)(hb:Q00 V b y)(hc:Q00 V c z)(sx:x.sz<=S)(sy:y.sz<=S)(sz:z.sz<=S)(hS:S<=2^34) :
 a00 prog t0l #[a.val,b.val,c.val] V λv V'=>∃r:NumV,v=r.val/\Q00 V' r (J0a x y z):=by
 have s1:=s06 y x; have s2:=D02 z (y-x);refine X0j a b c V _ ((D07 hb ha (by omega) (by omega)).mono λv V1 l1 ⟨r1,hv,h1⟩=>⟨r1,hv,?_⟩);refine(m03 (hc.le l1) h1 (by omega) (by omega)).mono λv V2 l2 ⟨r2,hv,h2⟩=>⟨r2,hv,?_⟩;exact(J03 (ha.le (Gx l1 l2)) h2 (by omega) (by omega)).mono λv V3 l3 ⟨r3,hv,h3⟩=>⟨r3,hv,r3,rfl,h3⟩
theorem K0o{V:View}{s:Sl}{l:List Tk}(h:C07 V s l){p:Option Addr}(hp:V.load p=some s.v){t:Nat}{k:Tk}(hk:l[t]?=some k) :
 a00 prog D0d #[.int .i64 (t:Int),.pointer p] V λv V'=>∃r:NumV,v = .tuple #[r.val,.bool (decide (k.place.im=0))]/\Q00 V' r k.time:=by
 obtain⟨g,y,hy,_,hs,⟨h1,g1⟩,h2,g2⟩:=N09 h (t:=(t:Int)) (by omega) (k:=k) (by rw[Aa]; exact hk);refine G0h (t:Int) p V _ ⟨s,hp,g,hs,y.time,h1,g1,s,hp,g,hs,y.place,h2,g2,?_⟩;exact(I02 hy.place).mono λv V1 l1 hv=>⟨_,hv,_,rfl,hy.time.le l1⟩
theorem J0l{V:View}{s:Sl}{l:List Tk}(h:C07 V s l){S:Nat}(hz:∀k∈l,k.szle S)(hS:S<=2^30){p:Option Addr}(hp:V.load p=some s.v) :
 a00 prog C0d #[.int .i64 (s.len:Int),(Fn1.mk p).val D0d] V λv _=>∃r:Int,v = .int .i64 r/\r=j0a l:=by
 have hl:s.len=l.length:=h.len;refine J08 (s.len:Int) ⟨p⟩ V _ (λ_ _ _=>1<=l.length/\l.length<=4096)
  (λ_ x V'=>∃t:Nat,x.t16=t/\t<=l.length/\(∀k,i09 l t=some k->Q00 V' x.o5 k.time/\k.time.im=0)/\ascF none l=ascF ((i09 l t).map λk=>k.time.re) (l.drop t)) (λ_ x _=>l.length-x.t16.toNat) ?_
 rw[hl];refine⟨⟨λh0=>⟨_,rfl,?_⟩,λh0=>⟨λh1=>⟨_,rfl,?_⟩,λh1 => ?_⟩⟩,?_⟩
 . unfold j0a; rw[if_pos (.inl (by simpa using h0))]
 . unfold j0a; rw[if_pos (.inr (by simp at h1; omega))]
 . have h0:l.length≠0:=by simpa using h0
   exact⟨by omega,by simp at h1; omega⟩
 rintro⟨u⟩ V1 l1 ⟨hn1,hn2⟩;refine⟨⟨0,rfl,by omega,λk hk=>by simp[i09]at hk,rfl⟩,?_⟩;rw[z0q hn1 hn2];rintro⟨t16,o5⟩ V2 l2 ⟨t,et,ht,ho,hE⟩;dsimp only at et ho ⊢;subst et;have L2:=Gx l1 l2;refine⟨λhlt => ?_,λhge=>⟨_,rfl,?_⟩⟩
 . have hk:t<l.length:=by simp at hlt; omega
   have ek:l[t]?=some l[t]:=Ae hk;have hmem:l[t]∈l:=Ax hk;obtain⟨zt,zp⟩:=hz _ hmem;rw[N0h ek]at hE;generalize hkk:l[t]=k at *;refine(K0o (h.le L2) (H02 L2 hp) ek).mono λv V3 l3 ⟨r1,hv,h1⟩=>⟨r1,_,hv,λc=>⟨_,rfl,?_⟩,λc => ?_⟩
   . have c:¬k.place.im=0:=by simpa using c
     rw[hE]; unfold ascF; rw[if_pos (by unfold Tk.real; simp[c])]
   have c:k.place.im=0:=by simpa using c
   refine(I02 h1).mono λv V4 l4 hv=>⟨_,hv,λd=>⟨_,rfl,?_⟩,λd => ?_⟩
   . have d:¬k.time.im=0:=by simpa using d
     rw[hE]; unfold ascF; rw[if_pos (by unfold Tk.real; simp[d])]
   have d:k.time.im=0:=by simpa using d
   have hr:¬k.real=false:=by unfold Tk.real; simp[c,d]
   have step:∀V',View.le V4 V'->(∀q,i09 l t=some q->¬k.time.re<=q.time.re)->(∃t':Nat,i64.wrap ((t:Int)+1)=t'/\t'<=l.length/\(∀k,i09 l t'=some k->Q00 V' r1 k.time/\k.time.im=0)/\ascF none l=ascF ((i09 l t').map λk=>k.time.re) (l.drop t'))/\l.length-(i64.wrap ((t:Int)+1)).toNat<l.length-(t:Int).toNat:=by
    intro V' l' hq;rw[i64w (by omega) (by omega)];refine⟨⟨t+1,by omega,by omega,?_,?_⟩,by omega⟩
    . intro k' hk';rw[N0c,ek]at hk';obtain rfl:=Option.some.inj hk';exact⟨h1.le (Gx l4 l'),d⟩
    rw[hE,N0c,ek]
    conv=>lhs; unfold ascF
    rw[if_neg hr];cases hpa:i09 l t with
    | none=>rfl
    | some q =>
      simp only[Aw];rw[if_neg (hq q hpa)]
   refine⟨λc0 => ?_,λc0=>step V4 (Gw _) λq hq => ?_⟩
   . have hpos:0<t:=by simp at c0; omega
     have ep:l[t-1]?=some l[t-1]:=Ae (by omega);have hpa:i09 l t=some l[t-1]:=by unfold i09; rw[if_neg (by omega),ep]
     obtain⟨ho1,ho2⟩:=ho _ hpa;have zq:=(hz _ (Ax (show t-1<l.length by omega))).1;generalize l[t-1]=q at *;refine(N06 (h1.le l4) (ho1.le (Gx l3 l4)) (by omega) (by omega)).mono λv V5 l5 hv=>⟨_,hv,λe=>⟨_,rfl,?_⟩,λe=>step V5 l5 λq' hq' => ?_⟩
     . rw[e0f d ho2]at e;have e:k.time.re<=q.time.re:=by
        rcases K0a k.time.re q.time.re with⟨g,_⟩|⟨g,_⟩|⟨_,g⟩
        . grind
        . grind
        rw[g]at e; simp at e
       rw[hE,hpa]
       conv=>rhs; unfold ascF
       rw[if_neg hr];simp only[Aw];rw[if_pos e]
     rw[hpa]at hq';obtain rfl:=Option.some.inj hq';rw[e0f d ho2]at e;rcases K0a k.time.re q.time.re with⟨_,g⟩|⟨_,g⟩|⟨g,_⟩
     . rw[g]at e; simp at e
     . rw[g]at e; simp at e
     grind
   have:t=0:=by simp at c0; omega
   subst this;simp[i09]at hq
 have e:t=l.length:=by simp at hge; omega
 subst e;rw[hE,Fc]; rfl
theorem e0r{V:View}{s:Sl}{l:List Tk}(h:C07 V s l){S:Nat}(hz:∀k∈l,k.szle S)(hS:S<=2^30) :
 a00 prog s0l #[s.v] V λv _=>∃r:Int,v = .int .i64 r/\r=j0a l:=by
 refine Y0j s V _ λb1 V1 l1 hb1 => ?_;have hld:V1.load (some (Addr.mk b1 0 none))=some s.v:=by simp[View.load,hb1]
 exact⟨s,hld,(J0l (h.le l1) hz hS hld).mono λv V2 l2 ⟨r,hv,hr⟩=>⟨r,hv,r,rfl,hr⟩⟩
theorem f0r(z w:Cq) : -1<=z.cmp w/\z.cmp w<=1:=by
 unfold Cq.cmp;split
 . rcases K0a z.re w.re with⟨_,g⟩|⟨_,g⟩|⟨_,g⟩<;>rw[g]<;>decide
 rcases K0a z.im w.im with⟨_,g⟩|⟨_,g⟩|⟨_,g⟩<;>rw[g]<;>decide
theorem Y0y{a b:Int}(ha : -1<=a/\a<=1)(hb : -1<=b/\b<=1):i64.wrap (a*b)=a*b:=by
 have h1:a = -1\/a=0\/a=1:=by omega
 have h2:b = -1\/b=0\/b=1:=by omega
 rcases h1 with rfl|rfl|rfl<;>rcases h2 with rfl|rfl|rfl<;>decide
theorem e0w{V:View}{s:Sl}{l:List Tk}(h:C07 V s l)(hn:1<=l.length)(hn2:l.length<=2^40){x:NumV}{p:Cq}(hx:Q00 V x p){S:Nat}(hz:∀k∈l,k.szle S)(zp:p.sz<=S)(hS:S<=2^28) :
 a00 prog t0p #[s.v,x.val] V λv V'=>∃(r:NumV) (b:Bool),v = .tuple #[r.val,.bool b]/\b=(t0b p l).isSome/\Q00 V' r ((t0b p l).getD Cq.zero):=by
 have hl:s.len=l.length:=h.len;have ek:l[0]?=some l[0]:=Ae (by omega);obtain⟨g,y,hy,_,hs,⟨h1,g1⟩,h2,g2⟩:=N09 h (t:=0) (by omega) (k:=l[0]) ek;obtain⟨z1,z2⟩:=hz _ (Ax (show 0<l.length by omega));have e0:t0b p l=if l[0].place=p then some l[0].time else M0c p l[0] (l.drop 1):=by
  rw[show t0b p l=t0b p (l.drop 0)from rfl,N0h ek]; rfl
 refine Y0n s x V _ (λ_ z _=>∃(i:Nat) (a:Tk),z.t6=i/\1<=i/\i<=l.length/\l[i-1]?=some a/\t0b p l=M0c p a (l.drop i)) (λ_ z _=>l.length-z.t6.toNat) ⟨g,hs,y.place,h2,g2,?_⟩;refine(N08 hy.place hx (by omega) (by omega)).mono λv V1 l1 hv=>⟨_,hv,λc => ?_,λc=>⟨?_,?_⟩⟩
 . have c:l[0].place=p:=by simpa using c
   rw[e0,if_pos c];exact⟨g,hs,y.time,w06 l1 h1,g1,_,_,rfl,rfl,hy.time.le l1⟩
 . have c:¬l[0].place=p:=by simpa using c
   exact⟨1,l[0],rfl,by omega,by omega,ek,by rw[e0,if_neg c]⟩
 rintro⟨t6,o4⟩ V2 l2 ⟨i,a,ei,i1,i2,ea,hE⟩;dsimp only at ei ⊢;subst ei;have L2:=Gx l1 l2;rw[hl];refine⟨λhlt => ?_,λhge => ?_⟩
 . have hk:i<l.length:=by simp at hlt; omega
   rw[i64w (n:=(i:Int)-1) (by omega) (by omega),i64w (n:=(i:Int)+1) (by omega) (by omega)];have eb:l[i]?=some l[i]:=Ae hk;obtain⟨za1,za2⟩:=hz a (Bn ea);obtain⟨zb1,zb2⟩:=hz _ (Ax hk);rw[N0h eb]at hE;obtain⟨ga,ya,hya,hha,hsa,_⟩:=N09 (h.le L2) (t:=(i:Int)-1) (by omega) (k:=a) (by rw[show((i:Int)-1).toNat=i-1 by omega]; exact ea);obtain⟨gb,yb,hyb,hhb,hsb,_⟩:=N09 (h.le L2) (t:=(i:Int)) (by omega) (k:=l[i]) (by rw[Aa]; exact eb);rw[hl]at ga gb;generalize l[i]=b at *;have step:M0c p b (l.drop (i+1))=t0b p l->(∃(j:Nat) (a:Tk),((i:Int)+1)=j/\1<=j/\j<=l.length/\l[j-1]?=some a/\t0b p l=M0c p a (l.drop j))/\l.length-((i:Int)+1).toNat<l.length-(i:Int).toNat :=
    λhe=>⟨⟨i+1,b,by omega,by omega,by omega,by rw[Cf]; exact eb,he.symm⟩,by omega⟩
   have eF:t0b p l=if 0<(a.place.cmp p)*(b.place.cmp p)\/a.place=b.place then M0c p b (l.drop (i+1))else some (J0a a.time b.time (z0e p a.place b.place)):=hE
   have hxx:=hx.le L2;refine⟨ga,ya,hha,hsa,gb,yb,hhb,hsb,(N06 hya.place hxx (by omega) (by omega)).mono λv V3 l3 hv=>⟨_,hv,?_⟩⟩;refine(N06 (hyb.place.le l3) (hxx.le l3) (by omega) (by omega)).mono λv V4 l4 hv=>⟨_,hv,?_⟩;rw[Y0y (f0r _ _) (f0r _ _)];have L4:=Gx l3 l4;refine⟨λc=>step ?_,λc=>(N08 (hya.place.le L4) (hyb.place.le L4) (by omega) (by omega)).mono λv V5 l5 hv=>⟨_,hv,λd=>step ?_,λd => ?_⟩⟩
   . rw[eF,if_pos (.inl (by simpa using c))]
   . rw[eF,if_pos (.inr (by simpa using d))]
   have c:¬0<(a.place.cmp p)*(b.place.cmp p):=by
    have:=Al c;exact this
   have d:¬a.place=b.place:=by simpa using d
   rw [if_neg (by rintro (g | g)
                  . exact c g
                  exact d g)]at eF
   have L5:=Gx L4 l5;have s1:=s06 p a.place; have s2:=s06 b.place a.place;have s3:=E0f (z:=p-a.place) (w:=b.place-a.place) (S:=2*S+2) (by omega) (by omega);refine(c0r (hxx.le L5) (hya.place.le L5) (hyb.place.le L5) zp za2 zb2 (by omega)).mono λv V6 l6 ⟨r5,hv,h5⟩=>⟨r5,hv,?_⟩;refine(d0r (hya.time.le (Gx L5 l6)) (hyb.time.le (Gx L5 l6)) h5 (S:=8*S+16) (by omega) (by omega) (by show((p-a.place).div (b.place-a.place)).sz<=_; omega) (by omega)).mono λv V7 l7 ⟨r6,hv,h6⟩=>⟨r6,hv,?_⟩;rw[eF];exact⟨_,_,rfl,rfl,h6⟩
 have e:i=l.length:=by simp at hge; omega
 subst e;rw[Fc]at hE;rw[hE];exact⟨_,_,rfl,rfl,Q00.zero V2⟩
theorem Z0y{a b x y z:Cq}{S:Nat}(ha:a.sz<=S)(hb:b.sz<=S)(hx:x.sz<=S)(hy:y.sz<=S)(hz:z.sz<=S):(J0a a b (z0e x y z)).sz<=16*S+40:=by
 have s1:=s06 x y; have s2:=s06 z y; have s4:=s06 b a;have s3:=E0f (z:=x-y) (w:=z-y) (S:=2*S+2) (by omega) (by omega);have s5:=D02 ((x-y).div (z-y)) (b-a);have s6:=q06 a ((x-y).div (z-y)*(b-a));show(a+(x-y).div (z-y)*(b-a)).sz<=_;omega
theorem g0r{p:Cq}{S:Nat}(ht:p.sz<=S):∀(l:List Tk) (a:Tk),(∀k∈l,k.szle S)->a.szle S->∀w,M0c p a l=some w->w.sz<=16*S+40
 | [],_,_,_,w,h=>by simp[M0c]at h
 | k::l,a,hl,ha,w,h=>by
   have hk:=hl k (by simp);unfold M0c at h;split at h
   . exact g0r ht l k (λk' h'=>hl k' (by simp[h'])) hk w h
   obtain rfl:=Option.some.inj h;exact Z0y ha.1 hk.1 ht ha.2 hk.2
structure Ds where
 i:Int
 j:Int
 n:Int
def a0z(q:Sk)(i j:Nat)(b:Bk):Option Ds->Option Ds
 | none=>none
 | some s=>if H0e (Bk.norm b) q=1 then some ⟨i,j,s.n+1⟩else if H0e q (Bk.norm b)=1 then some s else none
def dRow(q:Sk)(i:Nat)(o:Option Ds)(row:List Bk):Nat->Option Ds
 | 0=>o
 | k+1=>a0z q i k (row.getD k Bk.nil) (dRow q i o row k)
def f0j(q:Sk)(rows:List (List Bk)):Nat->Option Ds
 | 0=>some ⟨0,0,0⟩
 | t+1=>dRow q t (f0j q rows t) (rows.getD t []) (rows.getD t []).length
theorem i0r(q:Sk)(i:Nat)(row:List Bk):∀k,dRow q i none row k=none
 | 0=>rfl
 | k+1=>by rw[dRow,i0r q i row k]; rfl
theorem f0n{q:Sk}{i:Nat}{o:Option Ds}{row:List Bk}{k:Nat}(h:dRow q i o row k=none):∀m,k<=m->dRow q i o row m=none
 | 0,hk=>by rw[show k=0 by omega]at h; exact h
 | m+1,hk=>by
   rcases Ad m k with g|g
   . rw[show m+1=k by omega]; exact h
   rw[dRow,f0n h m g]; rfl
theorem W0k{q:Sk}{rows:List (List Bk)}{t:Nat}(h:f0j q rows t=none):∀m,t<=m->f0j q rows m=none
 | 0,hk=>by rw[show t=0 by omega]at h; exact h
 | m+1,hk=>by
   rcases Ad m t with g|g
   . rw[show m+1=t by omega]; exact h
   rw[f0j,W0k h m g]; exact i0r _ _ _ _
theorem b0z{q:Sk}{rows:List (List Bk)}{t k:Nat}(ht:t<rows.length)(hk:k<=(rows.getD t []).length)(h:dRow q t (f0j q rows t) (rows.getD t []) k=none):f0j q rows rows.length=none :=
 W0k (t:=t+1) (f0n h _ hk) _ ht
def f0w:Cq:=⟨((4:Int):Rat),0⟩
def X0h(z:Cq):Sk:=arS (z.div f0w) (z.div f0w)
def K0l(rows:List (List Bk))(z:Cq):Ds :=
 if rows.length=0 then⟨0,0,4⟩else if z.im=0/\0<z.re then
  (match f0j (X0h z) rows rows.length with
  | none=>⟨0,0,5⟩
  | some s=>if s.n=1 then⟨s.i,s.j,0⟩else⟨0,0,5⟩)else⟨0,0,1⟩
def Ds.val(s:Ds):Value := .tuple #[.int .i64 s.i,.int .i64 s.j,.int .i64 s.n]
theorem s11{V:View}{g:x00}{rows:List (List Bk)}{i j:Nat}(h:c01 4 boxC V g.rows rows)(hr:Rect rows)(hi:i<rows.length)(hj:j<T01 rows) :
 a00 prog p0f #[g.val,.int .i64 (i:Int),.int .i64 (j:Int)] V λv _=>v=((rows.getD i []).getD j Bk.nil).v.val/\((rows.getD i []).getD j Bk.nil).ok:=by
 refine d0e g i j V _ ((Q0k (i:=(i:Int)) (j:=(j:Int)) h hr Bk.nil).mono λv V1 _ ⟨r,e,hv,h1,_⟩=>⟨r,e,hv,?_⟩);obtain⟨_,hb⟩:=h1 ⟨⟨by omega,by omega⟩,by omega,by omega⟩;rw[Aa,Aa]at hb;obtain⟨e1,e2⟩:=hb;refine⟨?_,e2⟩;have:r=((rows.getD i []).getD j Bk.nil).v:=by
  obtain⟨⟨a,b⟩,⟨c,d⟩⟩:=r;generalize ((rows.getD i []).getD j Bk.nil).v=y at *;obtain⟨⟨a',b'⟩,⟨c',d'⟩⟩:=y;simp[BoxV.val]at e1;obtain⟨rfl,rfl,rfl,rfl⟩:=e1;rfl
 rw[this]
theorem c0z{q:Sk}{i k:Nat}{o:Option Ds}{row:List Bk}:dRow q i o row (k+1)=a0z q i k (row.getD k Bk.nil) (dRow q i o row k):=rfl
theorem e0u:f0w.sz<=64:=by
 refine(Hc9 4).sz (k:=64) ?_ (by decide) (by decide);exact k02 (by omega)
theorem u11:f0w≠Cq.zero:=by decide
theorem f0u{z:Cq}(h:z.im=0):z.cmp Cq.zero=cmpR z.re 0:=e0f h rfl
theorem d0z{x:Rat}:cmpR x 0<=0↔¬0<x:=by
 unfold cmpR;by_cases c:x<0
 . rw[if_pos c];exact⟨λ_ g=>by grind,λ_=>by decide⟩
 rw[if_neg c];by_cases d:x=0
 . rw[if_pos d]; exact⟨λ_ g=>by grind,λ_=>by decide⟩
 rw[if_neg d]; exact⟨λg=>absurd g (by decide),λg=>absurd (show 0<x by grind) g⟩
set_option maxHeartbeats 1000000 in
theorem e0z{V:View}{g:x00}{x:NumV}{rows:List (List Bk)}{z:Cq}(h:c01 4 boxC V g.rows rows)(hr:Rect rows)(hn:rows.length<=64)(hc:T01 rows<=64)(hx:Q00 V x z)(hz:z.sz<=64) :
 a00 prog H0r #[g.val,x.val] V λv _=>v=(K0l rows z).val:=by
 have zq:=E0f (z:=z) (w:=f0w) (S:=64) hz e0u;have hq:(X0h z).ok:=i15 _ _;refine b0q g x V _ (λc y _=>c.t7=rows.length/\c.t8=T01 rows/\y.t4=0/\y.t5=0/\z.im=0/\0<z.re/\0<rows.length)
  (λc y _=>∃t:Nat,y.t46=t/\t<=rows.length/\f0j (X0h z) rows t=some ⟨y.t4,y.t5,y.t13⟩/\0<=y.t13/\y.t13<=t*64) (λc y _=>rows.length-y.t46.toNat)
  (λc y _=>∃t k:Nat,c.t46=t/\t<rows.length/\y.t50=k/\k<=T01 rows/\dRow (X0h z) t (f0j (X0h z) rows t) (rows.getD t []) k=some ⟨y.t4,y.t5,y.t13⟩/\0<=y.t13/\y.t13<=t*64+k) (λc y _=>T01 rows-y.t50.toNat) ?_
 refine(S0c h).mono λv V1 l1 hv=>⟨_,_,hv,λc => ?_,λc=>⟨?_,?_⟩⟩
 . have c:rows.length=0:=by simpa using c
   unfold K0l; rw[if_pos c]; rfl
 . have c:rows.length≠0:=by intro e; rw[e]at c; exact absurd c (by decide)
   refine(I02 (hx.le l1)).mono λv V3 l3 hv=>⟨_,hv,λd => ?_,λd => ?_⟩
   . have d:¬z.im=0:=by simpa using d
     unfold K0l; rw[if_neg c,if_neg (λg=>d g.1)]; rfl
   have d:z.im=0:=by simpa using d
   refine(a02 (n:=0) (by decide) (by decide)).mono λv V4 l4 ⟨r4,hv,h4⟩=>⟨r4,hv,?_⟩;have h4:Q00 V4 r4 Cq.zero:=h4;refine(N06 (hx.le (Gx l1 (Gx l3 l4))) h4 (by omega) (Ah K06 (by omega))).mono λv V5 l5 hv=>⟨_,hv,λe => ?_,λe => ?_⟩
   . have e:=Ak e;rw[f0u d,d0z]at e;unfold K0l; rw[if_neg c,if_neg (λg=>e g.2)]; rfl
   have e:=Al e;rw[f0u d,d0z,Classical.not_not]at e;exact⟨rfl,rfl,rfl,rfl,d,e,by omega⟩
 rintro⟨t4,t5⟩ V2 l2 ⟨_,_,e4,e5,him,hre,hpos⟩;dsimp only at e4 e5;subst e4; subst e5;have fin:∀s,f0j (X0h z) rows rows.length=s->K0l rows z=(match s with|none=>⟨0,0,5⟩|some s=>if s.n=1 then⟨s.i,s.j,0⟩else⟨0,0,5⟩):=λs e=>by
  unfold K0l; rw[if_neg (by omega),if_pos ⟨him,hre⟩,e]
 refine(a02 (n:=4) (by decide) (by decide)).mono λv V6 l6 ⟨r6,hv,h6⟩=>⟨r6,hv,?_⟩;have h6:Q00 V6 r6 f0w:=h6;have four40:=e0u;refine(U09 (hx.le (Gx l1 (Gx l2 l6))) h6 (by omega) (by omega)).mono λv V7 l7 ⟨r7,e7,hv,_,h7⟩=>⟨r7,e7,hv,?_⟩;obtain⟨_,h7⟩:=h7 u11;refine(a0r h7 h7 (by omega) (by omega)).mono λv V8 l8 hv=>⟨_,_,hv,⟨0,rfl,by omega,rfl,by decide,by decide⟩,?_⟩;have L8:=Gx l1 (Gx l2 (Gx l6 (Gx l7 l8)));rintro⟨y4,y5,y13,y46⟩ V9 l9 ⟨t,et,ht,hD,hn0,hn1⟩;dsimp only at et hD hn0 hn1 ⊢;subst et;refine⟨λhlt=>⟨⟨t,0,rfl,by have:=Ak hlt; omega,rfl,by omega,hD,hn0,by omega⟩,?_⟩,λhge => ?_⟩
 . have hk:t<rows.length:=by have:=Ak hlt; omega
   have ek:=M08 hk [];have hrl:=p0e hr ek;rintro⟨z4,z5,z13,z50⟩ V10 l10 ⟨t',k,et,_,ek2,hkc,hR,hm0,hm1⟩;dsimp only at et ek2 hR hm0 hm1 ⊢;obtain rfl:t'=t:=by omega
   subst ek2;refine⟨λhlt2 => ?_,λhge2 => ?_⟩
   . have hkk:k<T01 rows:=by have:=Ak hlt2; omega
     refine(s11 (Hi Hj (Gx L8 (Gx l9 l10)) h) hr hk hkk).mono λv V11 l11 ⟨hv,hb⟩=>⟨_,hv,?_⟩;have hno:(Bk.norm ((rows.getD t' []).getD k Bk.nil)).ok:=l0n _;have hst:=c0z (q:=X0h z) (i:=t') (k:=k) (o:=f0j (X0h z) rows t') (row:=rows.getD t' []);rw[hR]at hst;refine(J0o hb).mono λv V12 l12 hv=>⟨_,hv,(I0e hno hq).mono λv V13 l13 hv=>⟨_,hv,λc1 => ?_,λc1=>(I0e hq hno).mono λv V14 l14 hv=>⟨_,hv,λc2 => ?_,λc2 => ?_⟩⟩⟩
     . have c1:H0e (Bk.norm ((rows.getD t' []).getD k Bk.nil)) (X0h z)=1:=by simpa using c1
       unfold a0z at hst;dsimp only at hst;rw[if_pos c1]at hst;rw[i64w (n:=(k:Int)+1) (by omega) (by omega),i64w (n:=z13+1) (by omega) (by omega)];exact⟨⟨t',k+1,rfl,hk,by omega,by omega,hst,by omega,by omega⟩,by omega⟩
     . have c1:¬H0e (Bk.norm ((rows.getD t' []).getD k Bk.nil)) (X0h z)=1:=by simpa using c1
       have c2:¬H0e (X0h z) (Bk.norm ((rows.getD t' []).getD k Bk.nil))=1:=by simpa using c2
       unfold a0z at hst;dsimp only at hst;rw[if_neg c1,if_neg c2]at hst;rw[fin none (b0z hk (by rw[hrl]; omega) hst)]; rfl
     have c1:¬H0e (Bk.norm ((rows.getD t' []).getD k Bk.nil)) (X0h z)=1:=by simpa using c1
     have c2:H0e (X0h z) (Bk.norm ((rows.getD t' []).getD k Bk.nil))=1:=by simpa using c2
     unfold a0z at hst;dsimp only at hst;rw[if_neg c1,if_pos c2]at hst;rw[i64w (by omega) (by omega)];exact⟨⟨t',k+1,rfl,hk,by omega,by omega,hst,hm0,by omega⟩,by omega⟩
   have e:k=T01 rows:=by have:=Al hge2; omega
   subst e;rw[i64w (by omega) (by omega)];exact⟨⟨t'+1,by omega,by omega,by rw[f0j,hrl]; exact hR,hm0,by omega⟩,by omega⟩
 have e:t=rows.length:=by have:=Al hge; omega
 subst e;refine⟨λc => ?_,λc => ?_⟩
 . have c:¬y13=1:=by simpa using c
   rw[fin _ hD]; simp only[if_neg c]; rfl
 have c:y13=1:=by simpa using c
 rw[fin _ hD]; simp only[if_pos c]; rfl
def kilo(r:RatV):Prop:=(-1000<=r.re/\r.re<=1000)/\(-1000<=r.im/\r.im<=1000) /\ -1000<=r.den/\r.den<=1000
theorem o0c{V:View}{s:Sl}{rs:List RatV}(h:b0c V s rs)(hn:rs.length<=100) :
 a00 prog S0f #[s.v] V λv _=>∃b:Bool,v = .bool b/\(b=true->∀r∈rs,kilo r):=by
 have hl:s.len=rs.length:=h.len;have no:∀V':View,∃b:Bool,Value.bool false = .bool b/\(b=true->∀r∈rs,kilo r):=λ_=>⟨false,rfl,λh=>absurd h (by simp)⟩
 refine q0f s V _ (λ_ x _=>∃t:Nat,x.t7=t/\t<=rs.length/\∀r∈rs.take t,kilo r) (λ_ x _=>rs.length-x.t7.toNat) ?_;rw[hl];refine⟨⟨0,rfl,by omega,by simp⟩,?_⟩;rintro⟨t7⟩ V1 l1 ⟨t,et,ht,hk⟩;dsimp only at et ⊢;subst et;refine⟨λhlt => ?_,λhge => ?_⟩
 . have htl:t<rs.length:=by have:=Ak hlt; omega
   have eg:rs[t]?=some rs[t]:=Ae htl;obtain⟨hb,x,hx,_,hh,hs⟩:=Hf (h.le l1) (t:=(t:Int)) (by omega) (z:=rs[t]) (by rw[Aa]; exact eg);rw[hl]at hb;refine⟨hb,rs[t],hx▸hh,hs,λ_=>no V1,λc1=>⟨λ_=>no V1,λc2=>⟨λ_=>no V1,λc3=>⟨λ_=>no V1,λc4=>⟨λ_=>no V1,λc5=>⟨λ_=>no V1,λc6 => ?_⟩⟩⟩⟩⟩⟩;have c1:=Al c1;have c2:=Al c2;have c3:=Al c3;have c4:=Al c4;have c5:=Al c5;have c6:=Al c6;rw[i64w (by omega) (by omega)];refine⟨⟨t+1,by omega,by omega,λr hr => ?_⟩,by omega⟩;rw[Ce,eg]at hr;simp only[Fo,Cb,Ca]at hr;rcases hr with hr|hr
   . exact hk r hr
   rw[hr]; exact⟨⟨by omega,by omega⟩,⟨by omega,by omega⟩,by omega,by omega⟩
 have e:t=rs.length:=by have:=Al hge; omega
 subst e;refine⟨_,rfl,λ_ r hr => ?_⟩;rw[Cu]at hk;exact hk r hr
theorem K0f{V:View}{a b:Sl}{rows:List (List Cq)}(ha:c01 5 numC V a rows)(hb:c01 5 numC V b rows)(hn:rows.length<=64)(hc:∀row∈rows,row.length<=64)(hS:Q08 (2^40) rows) :
 a00 prog T0f #[a.v,b.v] V λv _=>v = .bool true:=by
 have la:a.len=rows.length:=ha.len;have lb:b.len=rows.length:=hb.len;refine s0f a b V _ (λ_ x _=>∃t:Nat,x.t14=t/\t<=rows.length) (λ_ x _=>rows.length-x.t14.toNat)
  (λc x _=>∃t m:Nat,c.t14=t/\c.t5=t/\t<rows.length/\x.t33=m/\m<=(rows.getD t []).length) (λc x _=>(rows.getD c.t14.toNat []).length-x.t33.toNat) ?_
 rw[la,lb];refine⟨λc=>absurd c (by simp),λ_=>⟨⟨0,rfl,by omega⟩,?_⟩⟩;rintro⟨t14⟩ V1 l1 ⟨t,et,ht⟩;dsimp only at et ⊢;subst et;refine⟨λhlt => ?_,λhge=>rfl⟩;have htl:t<rows.length:=by have:=Ak hlt; omega
 have ek:=M08 htl [];have hrow:=hc _ (Bn ek);have row:∀ {V':View} {p:Sl},c01 5 numC V' p rows->p.len=rows.length->∃s:Sl,((0:Int)<=(t:Int)/\(t:Int)<(rows.length:Nat)/\Option.isSome p.a=true)/\V'.load (Option.map (λq=>Addr.add q (Int.toNat (t:Int)*1)) p.a)=some s.v/\n00 5 numC V' s (rows.getD t []):=λ{V' p} hp hl=>by
  obtain⟨g1,s,g2,g3⟩:=hp.row (t:=(t:Int)) (by omega) (row:=rows.getD t []) (by rw[Aa]; exact ek);rw[hl]at g1;exact⟨s,g1,g2,g3⟩
 obtain⟨s3,a1,a2,a3⟩:=row (Hi Hh l1 ha) la;obtain⟨s4,b1,b2,b3⟩:=row (Hi Hh l1 hb) lb;have e3:s3.len=(rows.getD t []).length:=a3.len;have e4:s4.len=(rows.getD t []).length:=b3.len;refine⟨a1,s3,a2,b1,s4,b2,λc=>absurd c (by rw[e3,e4]; simp),λ_=>⟨a1,s3,a2,⟨t,0,rfl,rfl,htl,rfl,by omega⟩,?_⟩⟩;rw[e3];rintro⟨t33⟩ V2 l2 ⟨t',m,et,_,_,em,hm⟩;dsimp only at et em ⊢;obtain rfl:t'=t:=by omega
 subst em;refine⟨λhlt2 => ?_,λhge2 => ?_⟩
 . have hm2:m<(rows.getD t' []).length:=by have:=Ak hlt2; omega
   have L2:=Gx l1 l2;obtain⟨s8,c1,c2,c3⟩:=row (Hi Hh L2 ha) la;obtain⟨s10,d1,d2,d3⟩:=row (Hi Hh L2 hb) lb;have eg:(rows.getD t' [])[m]?=some (rows.getD t' [])[m]:=Ae hm2;obtain⟨f1,x,⟨x9,rfl,n9⟩,_,f2,f3⟩:=Hf c3 (t:=(m:Int)) (by omega) (by rw[Aa]; exact eg);obtain⟨g1,y,⟨x11,rfl,n11⟩,_,g2,g3⟩:=Hf d3 (t:=(m:Int)) (by omega) (by rw[Aa]; exact eg);have z:=hS _ (Bn ek) _ (Bn eg);refine⟨c1,s8,c2,f1,x9,f2,f3,d1,s10,d2,g1,x11,g2,g3,(N08 n9 n11 z z).mono λv V3 _ hv=>⟨_,hv,λc=>absurd c (by simp),λ_ => ?_⟩⟩;rw[i64w (by omega) (by omega)];refine⟨⟨t',m+1,rfl,rfl,htl,by omega,by omega⟩,?_⟩;show(rows.getD (t':Int).toNat []).length-_<(rows.getD (t':Int).toNat []).length-_;rw[Aa]; omega
 rw[i64w (by omega) (by omega)];exact⟨⟨t'+1,by omega,by omega⟩,by omega⟩
def arB(z:Cq)(d:RatV):Bk:=(ofB z).hull (ofB (z+ratQ d))
theorem g0u(z:Cq)(d:RatV):(arB z d).ok:=Bk.hull_ok (d0u _) (d0u _)
theorem X0k{V:View}{x:NumV}{z:Cq}{d:RatV}(hx:Q00 V x z)(hz:z.sz<=2^26)(hd:ratI d) :
 a00 prog l0f #[x.val,d.val] V λv _=>v=(arB z d).v.val:=by
 have zd:=J0y hd;have za:=q06 z (ratQ d);refine e0e x d V _ ((T0y _ hx (by omega)).mono λv V1 l1 hv=>⟨_,hv,?_⟩);refine(S09 hd).mono λv V2 l2 ⟨r2,hv,h2⟩=>⟨r2,hv,?_⟩;refine(J03 (hx.le (Gx l1 l2)) h2 (by omega) (by omega)).mono λv V3 l3 ⟨r3,hv,h3⟩=>⟨r3,hv,?_⟩;refine(T0y _ h3 (by omega)).mono λv V4 l4 hv=>⟨_,hv,?_⟩;exact(H0o (d0u _) (d0u _)).mono λv V5 l5 hv=>⟨_,hv,rfl⟩
theorem S08{V:View}{n:Int}(h0:0<=n)(h1:n<=1):a00 prog G0d #[.int .i64 n] V λv _=>v=(arB ⟨(n:Rat),0⟩ ⟨0,0,0⟩).v.val:=by
 have zn:(⟨(n:Rat),0⟩:Cq).sz<=64:=K0y h0 (by omega);refine k0d n V _ ((a02 (by omega) (by omega)).mono λv V1 l1 ⟨r1,hv,h1⟩=>⟨r1,hv,?_⟩);exact(X0k h1 (by omega) ⟨⟨by decide,by decide⟩,⟨by decide,by decide⟩,by decide,by decide⟩).mono λv V2 _ hv=>⟨_,hv,rfl⟩
def L0l:List Bk:=[arB ⟨((1:Int):Rat),0⟩ ⟨0,0,0⟩,arB ⟨((1:Int):Rat),0⟩ ⟨0,0,0⟩,arB ⟨((0:Int):Rat),0⟩ ⟨0,0,0⟩,arB ⟨((1:Int):Rat),0⟩ ⟨0,0,0⟩]
theorem w11:(K0l [L0l] ⟨((1:Int):Rat),0⟩).i=0/\(K0l [L0l] ⟨((1:Int):Rat),0⟩).j=2/\(K0l [L0l] ⟨((1:Int):Rat),0⟩).n=0:=by decide +kernel
theorem m15:∀ {s:Ds},s.i=0/\s.j=2/\s.n=0->s=⟨0,2,0⟩
 | ⟨_,_,_⟩,⟨rfl,rfl,rfl⟩=>rfl
theorem F13:K0l [L0l] ⟨((1:Int):Rat),0⟩=⟨0,2,0⟩:=m15 w11
theorem f0z:o0e [L0l]=[L0l]/\u0f [L0l]=0:=⟨rfl,rfl⟩
theorem Y0k{V:View}:a00 prog l0a #[] V λv _=>v = .bool true:=by
 refine f0e V _ ((S08 (by decide) (by decide)).mono λv V1 l1 hv=>⟨_,hv,?_⟩);refine(S08 (by decide) (by decide)).mono λv V2 l2 hv=>⟨_,hv,?_⟩;refine(S08 (by decide) (by decide)).mono λv V3 l3 hv=>⟨_,hv,?_⟩;refine(S08 (by decide) (by decide)).mono λv V4 l4 hv=>⟨_,hv,λb1 V5 l5 _ hb1 b2 V6 l6 _ hb2 => ?_⟩;have hrow:n00 4 boxC V5 ⟨some ⟨b1,0,none⟩,4,4⟩ L0l:=W01 (o:=(arB ⟨((1:Int):Rat),0⟩ ⟨0,0,0⟩).v.val.cells.toList++((arB ⟨((1:Int):Rat),0⟩ ⟨0,0,0⟩).v.val.cells.toList++((arB ⟨((0:Int):Rat),0⟩ ⟨0,0,0⟩).v.val.cells.toList++((arB ⟨((1:Int):Rat),0⟩ ⟨0,0,0⟩).v.val.cells.toList++[])))) hb1
  ⟨_,_,rfl,rfl,⟨rfl,g0u _ _⟩,_,_,rfl,rfl,⟨rfl,g0u _ _⟩,_,_,rfl,rfl,⟨rfl,g0u _ _⟩,_,_,rfl,rfl,⟨rfl,g0u _ _⟩,rfl⟩ rfl
 have hrows:c01 4 boxC V6 ⟨some ⟨b2,0,none⟩,1,1⟩ [L0l]:=W01 (o:=[(Sl.mk (some (Addr.mk b1 0 none)) 4 4).v]) hb2 (Hd rfl ⟨_,rfl,He (Hj l6) l6 hrow⟩) rfl;refine(y0f hrows).mono λv V7 l7 ⟨g,hv,hg⟩=>⟨g,_,hv,?_⟩;rw[f0z.1]at hg;refine(a02 (by decide) (by decide)).mono λv V8 l8 ⟨r7,hv,h7⟩=>⟨r7,hv,?_⟩;have rc:Rect [L0l]:=λrow hr=>by
  rw[Ca]at hr;rw[hr]; rfl
 refine(e0z (Hi Hj l8 hg) rc (by decide) (by decide) h7 (K0y (by decide) (by decide))).mono λv V9 l9 hv => ?_;rw[F13]at hv;refine⟨0,2,0,hv,λ_=>⟨λ_=>⟨λ_=>rfl,λc=>absurd c (by decide)⟩,λc=>absurd c (by decide)⟩,λc => ?_⟩;rw[f0z.2]at c;exact absurd c (by decide)
theorem g0w{V:View}{s:Sl}{ks l:List Tk}(h:C07 V s ks)(el:l=strT ks){p:Option Addr}(hp:V.load p=some s.v){t:Nat}{k:Tk}(hk:l[t]?=some k) :
 a00 prog b09 #[.int .i64 (t:Int),.pointer p] V λv V'=>∃r:NumV,v = .tuple #[r.val,.bool (decide (k.place.im=0))]/\Q00 V' r k.time:=by
 subst el;unfold strT at hk;rw[Cd]at hk;obtain⟨k0,h0,rfl⟩:=Bg.1 hk;obtain⟨g,y,hy,_,hs,⟨h1,g1⟩,_⟩:=N09 h (t:=(t:Int)) (by omega) (k:=k0) (by rw[Aa]; exact h0);exact l0d (t:Int) p V _ ⟨s,hp,g,hs,y.time,h1,g1,y.time,rfl,hy.time⟩
theorem g0z{V:View}{s:Sl}{ks l:List Tk}(h:C07 V s ks)(el:l=strT ks){S:Nat}(hz:∀k∈l,k.szle S)(hS:S<=2^30){p:Option Addr}(hp:V.load p=some s.v) :
 a00 prog C0d #[.int .i64 (s.len:Int),(Fn1.mk p).val b09] V λv _=>∃r:Int,v = .int .i64 r/\r=j0a l:=by
 have hl:s.len=l.length:=by rw[el]; unfold strT; rw[Bt]; exact h.len
 refine y07 (s.len:Int) ⟨p⟩ V _ (λ_ _ _=>1<=l.length/\l.length<=4096)
  (λ_ x V'=>∃t:Nat,x.t16=t/\t<=l.length/\(∀k,i09 l t=some k->Q00 V' x.o5 k.time/\k.time.im=0)/\ascF none l=ascF ((i09 l t).map λk=>k.time.re) (l.drop t)) (λ_ x _=>l.length-x.t16.toNat) ?_
 rw[hl];refine⟨⟨λh0=>⟨_,rfl,?_⟩,λh0=>⟨λh1=>⟨_,rfl,?_⟩,λh1 => ?_⟩⟩,?_⟩
 . unfold j0a; rw[if_pos (.inl (by simpa using h0))]
 . unfold j0a; rw[if_pos (.inr (by simp at h1; omega))]
 . have h0:l.length≠0:=by simpa using h0
   exact⟨by omega,by simp at h1; omega⟩
 rintro⟨u⟩ V1 l1 ⟨hn1,hn2⟩;refine⟨⟨0,rfl,by omega,λk hk=>by simp[i09]at hk,rfl⟩,?_⟩;rw[z0q hn1 hn2];rintro⟨t16,o5⟩ V2 l2 ⟨t,et,ht,ho,hE⟩;dsimp only at et ho ⊢;subst et;have L2:=Gx l1 l2;refine⟨λhlt => ?_,λhge=>⟨_,rfl,?_⟩⟩
 . have hk:t<l.length:=by simp at hlt; omega
   have ek:l[t]?=some l[t]:=Ae hk;have hmem:l[t]∈l:=Ax hk;obtain⟨zt,zp⟩:=hz _ hmem;rw[N0h ek]at hE;generalize hkk:l[t]=k at *;refine(g0w (h.le L2) el (H02 L2 hp) ek).mono λv V3 l3 ⟨r1,hv,h1⟩=>⟨r1,_,hv,λc=>⟨_,rfl,?_⟩,λc => ?_⟩
   . have c:¬k.place.im=0:=by simpa using c
     rw[hE]; unfold ascF; rw[if_pos (by unfold Tk.real; simp[c])]
   have c:k.place.im=0:=by simpa using c
   refine(I02 h1).mono λv V4 l4 hv=>⟨_,hv,λd=>⟨_,rfl,?_⟩,λd => ?_⟩
   . have d:¬k.time.im=0:=by simpa using d
     rw[hE]; unfold ascF; rw[if_pos (by unfold Tk.real; simp[d])]
   have d:k.time.im=0:=by simpa using d
   have hr:¬k.real=false:=by unfold Tk.real; simp[c,d]
   have step:∀V',View.le V4 V'->(∀q,i09 l t=some q->¬k.time.re<=q.time.re)->(∃t':Nat,i64.wrap ((t:Int)+1)=t'/\t'<=l.length/\(∀k,i09 l t'=some k->Q00 V' r1 k.time/\k.time.im=0)/\ascF none l=ascF ((i09 l t').map λk=>k.time.re) (l.drop t'))/\l.length-(i64.wrap ((t:Int)+1)).toNat<l.length-(t:Int).toNat:=by
    intro V' l' hq;rw[i64w (by omega) (by omega)];refine⟨⟨t+1,by omega,by omega,?_,?_⟩,by omega⟩
    . intro k' hk';rw[N0c,ek]at hk';obtain rfl:=Option.some.inj hk';exact⟨h1.le (Gx l4 l'),d⟩
    rw[hE,N0c,ek]
    conv=>lhs; unfold ascF
    rw[if_neg hr];cases hpa:i09 l t with
    | none=>rfl
    | some q =>
      simp only[Aw];rw[if_neg (hq q hpa)]
   refine⟨λc0 => ?_,λc0=>step V4 (Gw _) λq hq => ?_⟩
   . have hpos:0<t:=by simp at c0; omega
     have ep:l[t-1]?=some l[t-1]:=Ae (by omega);have hpa:i09 l t=some l[t-1]:=by unfold i09; rw[if_neg (by omega),ep]
     obtain⟨ho1,ho2⟩:=ho _ hpa;have zq:=(hz _ (Ax (show t-1<l.length by omega))).1;generalize l[t-1]=q at *;refine(N06 (h1.le l4) (ho1.le (Gx l3 l4)) (by omega) (by omega)).mono λv V5 l5 hv=>⟨_,hv,λe=>⟨_,rfl,?_⟩,λe=>step V5 l5 λq' hq' => ?_⟩
     . rw[e0f d ho2]at e;have e:k.time.re<=q.time.re:=by
        rcases K0a k.time.re q.time.re with⟨g,_⟩|⟨g,_⟩|⟨_,g⟩
        . grind
        . grind
        rw[g]at e; simp at e
       rw[hE,hpa]
       conv=>rhs; unfold ascF
       rw[if_neg hr];simp only[Aw];rw[if_pos e]
     rw[hpa]at hq';obtain rfl:=Option.some.inj hq';rw[e0f d ho2]at e;rcases K0a k.time.re q.time.re with⟨_,g⟩|⟨_,g⟩|⟨g,_⟩
     . rw[g]at e; simp at e
     . rw[g]at e; simp at e
     grind
   have:t=0:=by simp at c0; omega
   subst this;simp[i09]at hq
 have e:t=l.length:=by simp at hge; omega
 subst e;rw[hE,Fc]; rfl
theorem L0o{V:View}{s:z0g}{k:Tk}(h:H0m V s k){p:Option Addr}{x:NumV}{t:Cq}(hp:V.has p x.val.cells.toList)(hs:Option.isSome p=true)(hx:Q00 V x t){S:Nat}(zk:k.szle S)(zt:t.sz<=S)(hS:S<=2^30) :
 a00 prog a08 #[(K0j.mk s.time s.place).val,.pointer p] V λv _=>v = .bool (decide (0<=k.time.cmp t)):=by
 obtain⟨z1,z2⟩:=zk;exact J0b ⟨s.time,s.place⟩ p V _ ⟨x,hp,hs,(N06 h.time hx (by omega) (by omega)).mono λv V1 _ hv=>⟨_,hv,rfl⟩⟩
theorem T0s{V:View}{s:Sl}{l:List Tk}(h:C07 V s l)(hn:l.length<=2^40){p:Option Addr}{x:NumV}{t:Cq}(hp:V.has p x.val.cells.toList)(hs:Option.isSome p=true)(hx:Q00 V x t){S:Nat}(hz:∀k∈l,k.szle S)(zt:t.sz<=S)(hS:S<=2^30) :
 a00 prog P03 #[s.v,(Fn1.mk p).val a08] V λv _=>∃r:Int,v = .int .i64 r /\
  ((r = -1/\∀k∈l,¬0<=k.time.cmp t)\/∃(i:Nat) (k:Tk),r=i/\l[i]?=some k/\0<=k.time.cmp t/\∀k∈l.take i,¬0<=k.time.cmp t):=by
 have hl:=h.len;refine w02 s ⟨p⟩ V _ (λ_ x _=>∃i:Nat,x.t8=i/\i<=l.length/\∀k∈l.take i,¬0<=k.time.cmp t) (λ_ x _=>l.length-x.t8.toNat) ⟨⟨0,rfl,by omega,by simp⟩,?_⟩;rintro⟨t8⟩ V1 l1 ⟨i,ei,hi,hno⟩;dsimp only at ei ⊢;subst ei;refine⟨λhlt => ?_,λhge=>⟨_,rfl,.inl ⟨rfl,?_⟩⟩⟩
 . have hk:i<l.length:=by simp at hlt; omega
   have ek:l[i]?=some l[i]:=Ae hk;obtain⟨g,y,hy,hh,hsm,_⟩:=N09 (h.le l1) (t:=(i:Int)) (by omega) (k:=l[i]) (by rw[Aa]; exact ek);refine⟨g,⟨y.time,y.place⟩,hh,hsm,(L0o hy (w06 l1 hp) hs (hx.le l1) (hz _ (Ax hk)) zt hS).mono λv V2 l2 hv=>⟨_,hv,λc=>⟨_,rfl,.inr ⟨i,_,rfl,ek,by simpa using c,hno⟩⟩,λc => ?_⟩⟩;rw[i64w (by omega) (by omega)];refine⟨⟨i+1,by omega,by omega,λk hm => ?_⟩,by omega⟩;rw[Ce,ek]at hm;rcases Cb.1 hm with hm|hm
   . exact hno k hm
   have:k=l[i]:=by simpa using hm
   rw[this]; simpa using c
 have e:i=l.length:=by simp at hge; omega
 subst e;rw[Cu]at hno;exact hno
theorem i0z{V:View}:a00 prog o0p #[.int .i64 0] V λv V3=>∃r2:NumV,v=r2.val /\
 a00 prog q0t #[zN.val,r2.val] V3 λv V4=>∃r3:NumV,v=r3.val/\Q00 V4 r3 Cq.zero :=
 (a02 (n:=0) (by omega) (by omega)).mono λv V1 _ ⟨r,hv,hr⟩=>⟨r,hv,u0b hr⟩
set_option maxHeartbeats 1000000 in
theorem j0r{V:View}{s:Sl}{l:List Tk}(h:C07 V s l)(hn:l.length<=2^40){x:NumV}{t:Cq}(hx:Q00 V x t){S:Nat}(hz:∀k∈l,k.szle S)(zt:t.sz<=S)(hS:S<=2^28) :
 a00 prog Z0c #[s.v,x.val] V λv V'=>∃(r:NumV) (b:Bool),v = .tuple #[r.val,.bool b]/\b=(p08 t none l).isSome/\Q00 V' r ((p08 t none l).getD Cq.zero):=by
 have no:∀(V':View) (r:NumV),Q00 V' r Cq.zero->p08 t none l=none->∃(r':NumV) (b:Bool),Value.tuple #[r.val,.bool false]=Value.tuple #[r'.val,.bool b]/\b=(p08 t none l).isSome/\Q00 V' r' ((p08 t none l).getD Cq.zero):=λV' r hr g=>by
  rw[g]; exact⟨r,_,rfl,rfl,hr⟩
 have yes:∀(V':View) (r:NumV) (w:Cq),p08 t none l=some w->Q00 V' r w->∃(r':NumV) (b:Bool),Value.tuple #[r.val,.bool true]=Value.tuple #[r'.val,.bool b]/\b=(p08 t none l).isSome/\Q00 V' r' ((p08 t none l).getD Cq.zero):=λV' r w g hr=>by
  rw[g]; exact⟨r,_,rfl,rfl,hr⟩
 refine J0c s x V _ λb1 V3 l3 hb1 => ?_;have hb:∀V',View.le V3 V'->V'.has (some (Addr.mk b1 0 none)) x.val.cells.toList:=λV' l'=>w06 l' (e05 (cs:=x.val.cells.toList) (j:=0) hb1 (λi v hv=>by rw[Am]; exact hv) rfl)
 refine(T0s (h.le l3) hn (hb V3 (Gw _)) rfl (hx.le l3) hz zt (by omega)).mono λv V4 l4 ⟨r3,hv,hr⟩=>⟨r3,hv,λe => ?_,λe => ?_⟩
 . rcases hr with⟨_,hno⟩|⟨i,k,hi,_⟩
   . refine i0z.mono λv V5 _ ⟨r5,hv,h5⟩=>⟨r5,hv,h5.mono λv V6 _ ⟨r6,hv,h6⟩=>⟨r6,hv,no V6 r6 h6 ?_⟩⟩;rw[e0g l.length (An9 _) (by rw[Cu]; exact hno),Fc]; rfl
   simp at e; omega
 rcases hr with⟨hr,_⟩|⟨i,k,hi,ek,hc,hno⟩
 . rw[hr]at e; simp at e
 have ilt:i<l.length:=(List.getElem?_eq_some_iff.1 ek).1;subst hi;have L4:=Gx l3 l4;have eP:p08 t none l=if k.time=t then some k.place else match i09 l i with
  | none=>none
  | some p=>some (J0a p.place k.place (z0e t p.time k.time)):=by
  rw[e0g i (by omega) hno,N0h ek];show(if 0<=k.time.cmp t then _ else _)=_
  rw[if_pos hc];cases i09 l i<;>rfl
 obtain⟨zk1,zk2⟩:=hz k (Bn ek);obtain⟨g,y,hy,hh,hsm,⟨ht1,ht2⟩,hp1,hp2⟩:=N09 (h.le L4) (t:=(i:Int)) (by omega) (k:=k) (by rw[Aa]; exact ek);refine⟨g,hsm,y.time,ht1,ht2,x,hb V4 l4,rfl,(N08 hy.time (hx.le L4) (by omega) (by omega)).mono λv V5 l5 hv=>⟨_,hv,λc => ?_,λc=>⟨λi0 => ?_,λi0 => ?_⟩⟩⟩
 . have c:k.time=t:=by simpa using c
   exact⟨g,hsm,y.place,w06 l5 hp1,hp2,yes V5 _ _ (by rw[eP,if_pos c]) (hy.place.le l5)⟩
 . have c:¬k.time=t:=by simpa using c
   have i0:i=0:=by simpa using i0
   subst i0;exact i0z.mono λv V6 _ ⟨r5,hv,h5⟩=>⟨r5,hv,h5.mono λv V7 _ ⟨r6,hv,h6⟩=>⟨r6,hv,no V7 r6 h6 (by rw[eP,if_neg c]; rfl)⟩⟩
 have c:¬k.time=t:=by simpa using c
 have i0:0<i:=by
  have:i≠0:=by simpa using i0
  omega
 rw[i64w (by omega) (by omega)];have ep:l[i-1]?=some l[i-1]:=Ae (by omega);have hpa:i09 l i=some l[i-1]:=by unfold i09; rw[if_neg (by omega),ep]
 obtain⟨zq1,zq2⟩:=hz _ (Ax (show i-1<l.length by omega));obtain⟨g',y',hy',hh',hsm',_⟩:=N09 (h.le L4) (t:=(i:Int)-1) (by omega) (k:=l[i-1]) (by rw[show((i:Int)-1).toNat=i-1 by omega]; exact ep);generalize l[i-1]=q at *;rw[if_neg c,hpa]at eP;refine⟨g',⟨y'.time,y'.place⟩,w06 l5 hh',hsm',g,⟨y.time,y.place⟩,w06 l5 hh,hsm,x,hb V5 (Gx l4 l5),rfl,?_⟩;have s1:=s06 t q.time; have s2:=s06 k.time q.time;have s3:=E0f (z:=t-q.time) (w:=k.time-q.time) (S:=2*S+2) (by omega) (by omega);have s4:=s06 k.place q.place;have s5:=D02 (k.place-q.place) ((t-q.time).div (k.time-q.time));refine(D07 (hy.place.le l5) (hy'.place.le l5) (by omega) (by omega)).mono λv V6 l6 ⟨r7,hv,h7⟩=>⟨r7,hv,?_⟩;have L6:=Gx l5 l6;refine(c0r (hx.le (Gx L4 L6)) (hy'.time.le L6) (hy.time.le L6) zt zq1 zk1 (by omega)).mono λv V7 l7 ⟨r8,hv,h8⟩=>⟨r8,hv,?_⟩;refine(u0b h8).mono λv V8 l8 ⟨r9,hv,h9⟩=>⟨r9,hv,?_⟩;refine(m03 (h7.le (Gx l7 l8)) h9 (by omega) (by show((t-q.time).div (k.time-q.time)).sz<=_; omega)).mono λv V9 l9 ⟨r10,hv,h10⟩=>⟨r10,hv,?_⟩;refine(J03 (hy'.place.le (Gx L6 (Gx l7 (Gx l8 l9)))) h10 (by omega) (by show((k.place-q.place)*(t-q.time).div (k.time-q.time)).sz<=_; omega)).mono λv V10 l10 ⟨r11,hv,h11⟩=>⟨r11,hv,?_⟩;refine yes V10 r11 _ eP ?_;unfold J0a;rw[Cq.mul_comm (z0e t q.time k.time)];exact h11
theorem y11{α:Type}(n:Nat)(f:Nat->α):rowL (n+1) f=rowL n f++[f n]:=by unfold rowL; rw[Cz,Er]; rfl
theorem U0s{Vx:View}{r:NumV}{n cap:Nat}{o l:List Value}(hL:G02 5 n cap o l)(hn:n<=64){B:Nat->List Value->View->Prop}
 (hB:∀c l6 V',Vx.le V'->G02 5 (n+1) c l6 (l++r.val.cells.toList)->B c l6 V') :
 ∀(b:Nat) (V':View),View.le Vx V'->View.Fin V'->V' b=some #[.bool r.re.neg,r.re.mag.v,.bool r.im.neg,r.im.mag.v,r.under.v] ->
  ∃(l1:List Value) (l2:List Value),G02 5 n cap o l1/\View.has V' (some (Addr.mk b 0 none)) l2/\List.length l2=1*5/\(∀v∈l2,Value.oneCell' v=true)/\n+1<=maxLen/\(n+1)*88<=140737488355328 /\
  ∀(c:Nat) (l3:List Value),G02 5 (n+1) c l3 (l1++l2)->B c l3 V' :=
 λ_ V' hle _ hb=>⟨l,r.val.cells.toList,hL,T09 hb,rfl,x0b r,by unfold maxLen; omega,by omega,λc l3 h=>hB c l3 V' hle h⟩
theorem j0z{Vx:View}{k:Int}{n cap:Nat}{o l:List Value}(hL:G02 1 n cap o l)(hn:n<=64){B:Nat->List Value->View->Prop}
 (hB:∀c l6 V',Vx.le V'->G02 1 (n+1) c l6 (l++[.int .i64 k])->B c l6 V') :
 ∀(b:Nat) (V':View),View.le Vx V'->View.Fin V'->V' b=some #[.int .i64 k] ->
  ∃(l1:List Value) (l2:List Value),G02 1 n cap o l1/\View.has V' (some (Addr.mk b 0 none)) l2/\List.length l2=1*1/\(∀v∈l2,Value.oneCell' v=true)/\n+1<=maxLen/\(n+1)*8<=140737488355328 /\
  ∀(c:Nat) (l3:List Value),G02 1 (n+1) c l3 (l1++l2)->B c l3 V' :=
 λ_ V' hle _ hb=>⟨l,[.int .i64 k],hL,T09 (l:=[.int .i64 k]) hb,rfl,by intro v hv; simp at hv; subst hv; rfl,by unfold maxLen; omega,by omega,λc l3 h=>hB c l3 V' hle h⟩
theorem Z0k{l s:List Tk}{a d:Cq}{n:Int}(h1:j0a l=0)(h2:j0a (strT s)=0)(h:¬(a.im=0/\d.im=0/\d≠Cq.zero)):X0g l s a d n=1:=by
 unfold X0g; rw[if_pos h1,if_pos h2,if_neg h]
theorem G13{s:List Tk}{S:Nat}(h2:2<=S)(h:∀k∈s,k.szle S):∀k∈strT s,k.szle S:=by
 intro k hk;obtain⟨k0,h0,rfl⟩:=Bc.1 hk;have:Cq.zero.sz<=2:=by decide +kernel
 exact⟨(h k0 h0).1,by show Cq.zero.sz<=S; omega⟩
theorem k0z{k:Nat}(h:k<=64):(natQ k).sz<=64:=by
 refine(Hc9 (k:Int)).sz (k:=64) ?_ (by decide) (by decide);exact k02 (by omega)
def H13(V':View)(e:Int)(n:Nat)(f:Nat->Cq)(miss:List Int)(r1 r2:Sl):Prop:=H01 V' r1 (if e=0 then rowL n f else [])/\n00 1 intC V' r2 (if e=0 then miss else [])
theorem l0z{p:Cq}{l:List Tk}{S:Nat}(hl:∀k∈l,k.szle S)(hp:p.sz<=S):∀w,t0b p l=some w->w.sz<=16*S+40:=by
 intro w hw;cases l with
 | nil=>simp[t0b]at hw
 | cons k l =>
   have hk:=hl k (by simp);have hw:(if k.place=p then some k.time else M0c p k l)=some w:=hw
   split at hw
   . obtain rfl:=Option.some.inj hw;have:=hk.1; omega
   exact g0r hp l k (λk' h'=>hl k' (by simp[h'])) hk w hw
theorem z11{a d:Cq}{k:Nat}(ha:a.sz<=64)(hd:d.sz<=64)(hk:k<=64):(a+d*natQ k).sz<=300:=by
 have h1:=k0z hk;have h2:=D02 d (natQ k);have h3:=q06 a (d*natQ k);omega
set_option maxHeartbeats 2000000 in
theorem m0z{V:View}{p q:Sl}{l s:List Tk}{x y:NumV}{a d:Cq}{n:Int}(h:C07 V p l)(k:C07 V q s)(hx:Q00 V x a)(hy:Q00 V y d)(hl:∀k∈l,k.szle 64)(hs:∀k∈s,k.szle 64)(ha:a.sz<=64)(hd:d.sz<=64)(hsn:s.length<=2^20) :
 a00 prog m0f #[p.v,q.v,x.val,y.val,.int .i64 n] V λv V'=>∃r1 r2:Sl,v = .tuple #[r1.v,r2.v,.int .i64 (X0g l s a d n)]/\H13 V' (X0g l s a d n) n.toNat (D0s l s a d) (O0c l s a d n.toNat) r1 r2:=by
 have nil:∀(e:Int) (V':View),X0g l s a d n=e->e≠0->∃r1 r2:Sl,Value.tuple #[(Sl.mk none 0 0).v,(Sl.mk none 0 0).v,.int .i64 e] = .tuple #[r1.v,r2.v,.int .i64 (X0g l s a d n)]/\H13 V' (X0g l s a d n) n.toNat (D0s l s a d) (O0c l s a d n.toNat) r1 r2:=λe V' he h0=>by
  rw[he];exact⟨⟨none,0,0⟩,⟨none,0,0⟩,rfl,by rw[if_neg h0]; exact n00.nil,by rw[if_neg h0]; exact n00.nil⟩
 refine i0e p q x y n V _ (λ_ _ _=>a.im=0/\d.im=0/\d≠Cq.zero) (λ_ _ _=>1<=n/\n<=64)
  (λ_ z V'=>∃(t:Nat) (l5 l1:List Value),z.t53=t/\(t:Int)<=n/\G02 5 z.t15l z.t15c z.o15 l5/\z.t15l=t/\f01 5 numC V' l5 (rowL t (D0s l s a d))/\G02 1 z.t16l z.t16c z.o16 l1/\z.t16l=(O0c l s a d t).length/\f01 1 intC V' l1 (O0c l s a d t)) (λ_ z _=>n.toNat-z.t53.toNat) ?_
 refine(e0r h hl (by omega)).mono λv V1 l1 ⟨r1,hv,e1⟩=>⟨r1,hv,λc => ?_,λc b1 V2 l2 hb1 => ?_⟩
 . have c:j0a l≠0:=by rw[<-e1]; simpa using c
   rw[e1]; exact nil _ V1 (by unfold X0g; rw[if_neg c]) c
 have c1:j0a l=0:=by rw[<-e1]; simpa using c
 obtain⟨tn1,tn2,asc⟩:=a0y c1;have hld:V2.load (some (Addr.mk b1 0 none))=some q.v:=by simp[View.load,hb1]
 refine⟨q,hld,?_⟩;have L2:=Gx l1 l2;refine(g0z (k.le L2) rfl (G13 (by omega) hs) (by omega) hld).mono λv V3 l3 ⟨r2,hv,e2⟩=>⟨r2,hv,λc => ?_,λc=>⟨?_,?_⟩⟩
 . have c:j0a (strT s)≠0:=by rw[<-e2]; simpa using c
   rw[e2]; exact nil _ V3 (by unfold X0g; rw[if_pos c1,if_neg c]) c
 all_goals have c2:j0a (strT s)=0:=by rw[<-e2]; simpa using c
 all_goals have L3:=Gx L2 l3
 . refine(I02 (hx.le L3)).mono λv V5 l5 hv=>⟨_,hv,λc => ?_,λc => ?_⟩
   . have c:¬a.im=0:=by simpa using c
     exact nil 1 V5 (Z0k c1 c2 (by rintro⟨g,_⟩; exact c g)) (by decide)
   have r1:a.im=0:=by simpa using c
   refine(I02 (hy.le (Gx L3 l5))).mono λv V6 l6 hv=>⟨_,hv,λc => ?_,λc => ?_⟩
   . have c:¬d.im=0:=by simpa using c
     exact nil 1 V6 (Z0k c1 c2 (by rintro⟨_,g,_⟩; exact c g)) (by decide)
   have r2:d.im=0:=by simpa using c
   refine(e07 (hy.le (Gx L3 (Gx l5 l6))) (by omega)).mono λv V7 l7 hv=>⟨_,hv,λc => ?_,λc=>⟨r1,r2,by simpa using c⟩⟩;have c:d=Cq.zero:=by simpa using c
   exact nil 1 V7 (Z0k c1 c2 (by rintro⟨_,_,g⟩; exact g c)) (by decide)
 rintro⟨u⟩ V4 l4 hr;have eE:X0g l s a d n=if 1<=n/\n<=64 then 0 else 4:=by unfold X0g; rw[if_pos c1,if_pos c2,if_pos hr]
 refine⟨⟨λc=>nil 4 V4 ?_ (by decide),λc=>⟨λc'=>nil 4 V4 ?_ (by decide),λc' => ?_⟩⟩,?_⟩
 . rw[eE,if_neg (by simp at c; omega)]
 . rw[eE,if_neg (by simp at c'; omega)]
 . simp at c c'; exact⟨by omega,by omega⟩
 rintro⟨u'⟩ V8 l8 ⟨n1,n64⟩;have e0:X0g l s a d n=0:=by rw[eE,if_pos ⟨n1,n64⟩]
 have L8:=Gx L3 (Gx l4 l8);refine⟨⟨0,[],[],rfl,by omega,Hg,rfl,rfl,Hg,rfl,rfl⟩,?_⟩;rintro⟨t15l,t15c,t16l,t16c,t53,o15,o16⟩ V9 l9 ⟨t,w5,w1,et,ht,hL5,e5,hC5,hL1,e1',hC1⟩;dsimp only at et hL5 e5 hC5 hL1 e1' hC1 ⊢;subst et; subst e5; subst e1';have L9:=Gx L8 l9;have hld9:=H02 (Gx l3 (Gx l4 (Gx l8 l9))) hld;refine⟨λhlt => ?_,λhge => ?_⟩
 . have hk:(t15l:Int)<n:=by simpa using hlt
   have k64:t15l<=64:=by omega
   have m64:=c0y l s a d t15l;rw[i64w (by omega) (by omega)];have fin:∀(Vx:View) (r:NumV) (b:Bool) (cc c6:Nat) (w5' w1':List Value) (hm:Nat),View.le V9 Vx->Q00 Vx r ((x0f l s a d t15l).getD Cq.zero) ->
    G02 5 (t15l+1) c6 w5' (w5++r.val.cells.toList)->b=(x0f l s a d t15l).isSome->(b=false->hm=(O0c l s a d t15l).length+1/\∃c,G02 1 hm cc w1' (w1++[.int .i64 (t15l:Int)])/\c=cc)->(b=true->hm=(O0c l s a d t15l).length/\G02 1 hm cc w1' w1) ->
    (∃(t':Nat) (l5 l1:List Value),((t15l:Int)+1)=t'/\(t':Int)<=n/\G02 5 (t15l+1) c6 w5' l5/\t15l+1=t'/\f01 5 numC Vx l5 (rowL t' (D0s l s a d))/\G02 1 hm cc w1' l1/\hm=(O0c l s a d t').length/\f01 1 intC Vx l1 (O0c l s a d t'))/\n.toNat-((t15l:Int)+1).toNat<n.toNat-(t15l:Int).toNat:=by
    intro Vx r b cc c6 w5' w1' hm hle hr hl5 hb h0 h1;have c5:f01 5 numC Vx (w5++r.val.cells.toList) (rowL (t15l+1) (D0s l s a d)):=by
     rw[y11];exact(hC5.imp (Hh hle)).append (Hd rfl ⟨r,rfl,hr⟩)
    cases b with
    | false =>
      obtain⟨g1,c,g2,rfl⟩:=h0 rfl;have hn:(x0f l s a d t15l).isNone=true:=by cases hq:x0f l s a d t15l with
       | none=>rfl
       | some w=>rw[hq]at hb; simp at hb
      have em:O0c l s a d (t15l+1)=O0c l s a d t15l++[(t15l:Int)]:=by rw[K0m,if_pos hn]
      refine⟨⟨t15l+1,_,_,by omega,by omega,hl5,rfl,c5,g2,by rw[em,g1]; simp,?_⟩,by omega⟩;rw[em];exact(f01.imp (P:=intC) (V:=V9) (V':=Vx) (λ_ _ e=>e) hC1).append (Hd rfl rfl)
    | true =>
      obtain⟨g1,g2⟩:=h1 rfl;have hn:¬(x0f l s a d t15l).isNone=true:=by cases hq:x0f l s a d t15l with
       | none=>rw[hq]at hb; simp at hb
       | some w=>simp
      have em:O0c l s a d (t15l+1)=O0c l s a d t15l:=by rw[K0m,if_neg hn]
      refine⟨⟨t15l+1,_,_,by omega,by omega,hl5,rfl,c5,g2,by rw[em,g1],?_⟩,by omega⟩;rw[em];exact f01.imp (P:=intC) (V:=V9) (V':=Vx) (λ_ _ e=>e) hC1
   refine(a02 (n:=0) (by omega) (by omega)).mono λv V10 l10 ⟨r6,hv,h6⟩=>⟨r6,hv,?_⟩;refine(u0b h6).mono λv V11 l11 ⟨r7,hv,h7⟩=>⟨r7,hv,?_⟩;refine(g0f (n:=(t15l:Int)) (by omega) (by omega)).mono λv V12 l12 ⟨r8,hv,h8⟩=>⟨r8,hv,?_⟩;have h8:Q00 V12 r8 (natQ t15l):=h8;have La:=Gx l10 (Gx l11 l12);have zk:=k0z k64;have zm:=D02 d (natQ t15l);refine(m03 (hy.le (Gx L9 La)) h8 (by omega) (by omega)).mono λv V13 l13 ⟨r9,hv,h9⟩=>⟨r9,hv,?_⟩;have Lb:=Gx La l13;refine(J03 (hx.le (Gx L9 Lb)) h9 (by omega) (by omega)).mono λv V14 l14 ⟨r10,hv,h10⟩=>⟨r10,hv,?_⟩;have Lc:=Gx Lb l14;have zp:=z11 ha hd k64;have hl300:∀k∈l,k.szle 300:=λk hk=>⟨Ah (hl k hk).1 (by omega),Ah (hl k hk).2 (by omega)⟩
   refine(e0w (h.le (Gx L9 Lc)) tn1 (by omega) h10 hl300 zp (by omega)).mono λv V15 l15 ⟨r11,b,hv,hb,h11⟩=>⟨r11,b,hv,λc => ?_,λc => ?_⟩
   . subst c;obtain⟨T,hT⟩:=Co.1 hb.symm;rw[hT]at h11;have h11:Q00 V15 r11 T:=h11;have zT:T.sz<=6000:=Ah (l0z hl300 zp T hT) (by omega);have hs6:∀k∈s,k.szle 6000:=λk hk=>⟨Ah (hs k hk).1 (by omega),Ah (hs k hk).2 (by omega)⟩
     have eP:x0f l s a d t15l=p08 T none s:=by unfold x0f; rw[hT]; rfl
     have Ld:=Gx Lc l15;refine⟨q,H02 Ld hld9,(j0r (k.le (Gx L9 Ld)) (by omega) h11 hs6 zT (by omega)).mono λv V16 l16 ⟨r13,b,hv,hb2,h13⟩=>⟨r13,b,hv,λc => ?_,λc => ?_⟩⟩
     . have c:b=false:=by simpa using c
       subst c;rw[<-eP]at hb2 h13;exact j0z hL1 (by omega) λc1 w1' V17 l17 hl1=>U0s hL5 k64 λc2 w5' V18 l18 hl5=>fin V18 r13 false c1 c2 w5' w1' _ (Gx Ld (Gx l16 (Gx l17 l18))) (h13.le (Gx l17 l18)) hl5 hb2 (λ_=>⟨rfl,c1,hl1,rfl⟩) (λg=>absurd g (by decide))
     have c:b=true:=by simpa using c
     subst c;rw[<-eP]at hb2 h13;exact U0s hL5 k64 λc2 w5' V18 l18 hl5=>fin V18 r13 true t16c c2 w5' o16 _ (Gx Ld (Gx l16 l18)) (h13.le l18) hl5 hb2 (λg=>absurd g (by decide)) (λ_=>⟨rfl,hL1⟩)
   subst c;have hT:t0b (a+d*natQ t15l) l=none:=by cases hq:t0b (a+d*natQ t15l) l with
    | none=>rfl
    | some w=>rw[hq]at hb; simp at hb
   have eP:x0f l s a d t15l=none:=by unfold x0f; rw[hT]; rfl
   refine⟨λ_ => ?_,λc=>absurd c (by decide)⟩;exact j0z hL1 (by omega) λc1 w1' V17 l17 hl1=>U0s hL5 k64 λc2 w5' V18 l18 hl5=>fin V18 r7 false c1 c2 w5' w1' _ (Gx Lc (Gx l15 (Gx l17 l18))) (by rw[eP]; exact h7.le (Gx l12 (Gx l13 (Gx l14 (Gx l15 (Gx l17 l18)))))) hl5 (by rw[eP]; rfl) (λ_=>⟨rfl,c1,hl1,rfl⟩) (λg=>absurd g (by decide))
 have e:t15l=n.toNat:=by simp at hge; omega
 intro b8 V23 l23 hb8 b9 V24 l24 hb9;rw[e0];refine⟨⟨lstA b8 t15c,_,t15c⟩,⟨lstA b9 t16c,_,t16c⟩,rfl,?_,?_⟩
 . rw[if_pos rfl,<-e];exact H01.le l24 (k04 hL5 hb8 (hC5.imp (Hh l23)) (by rw[B00]))
 rw[if_pos rfl,<-e];exact k04 hL1 hb9 (f01.imp (P:=intC) (V:=V9) (V':=V24) (λ_ _ e=>e) hC1) rfl
structure Mk where
 i:Int
 j:Int
 p:P3
def Mk.in64(m:Mk):Prop:=(-9223372036854775808<=m.i/\m.i<=9223372036854775807)/\(-9223372036854775808<=m.j/\m.j<=9223372036854775807)
structure p15 (V:View) (s:A0h) (m:Mk):Prop where
 i:s.i=m.i
 j:s.j=m.j
 p:l07 V s.at_ m.p
def n0z(V:View)(x:List Value)(m:Mk):Prop:=∃s:A0h,x=s.val.cells.toList/\p15 V s m
theorem n0z.le{V V':View}(hle:V.le V')(x:List Value)(m:Mk)(h:n0z V x m):n0z V' x m:=by
 obtain⟨s,e,h1,h2,h3⟩:=h; exact⟨s,e,h1,h2,h3.le hle⟩
def a0l(V:View)(s:Sl)(ms:List Mk):Prop:=n00 17 n0z V s ms
theorem a0l.le{V V':View}(hle:V.le V'){s:Sl}{ms:List Mk}(h:a0l V s ms):a0l V' s ms:=He (n0z.le hle) hle h
def intQ(n:Int):Cq:=⟨(n:Rat),0⟩
theorem W0s{n:Int}(h : -9223372036854775808<=n/\n<=9223372036854775807):(intQ n).sz<=64:=by
 refine(Hc9 n).sz (k:=64) ?_ (by decide) (by decide);exact k02 (by omega)
def b0l(p:P3)(a:Nat):Cq:=if a=0 then p.x else if a=1 then p.y else p.z
def mkD:Mk:=⟨0,0,P3.zero⟩
def fitA(ms:List Mk):Nat->Nat->Cq:=λr k=>if k=0 then intQ 1 else if k=1 then intQ (ms.getD r mkD).i else intQ (ms.getD r mkD).j
def fitB(ms:List Mk)(a:Nat):Nat->Cq:=λr=>b0l (ms.getD r mkD).p a
def fitX(ms:List Mk)(a:Nat):Nat->Cq:=w08 numO Cq.zero (elim numO 3 4 (augN 3 (nrmA ms.length (fitA ms)) (nrmB ms.length (fitA ms) (fitB ms a)))).1 3 3
def fitF(ms:List Mk):F3:=⟨⟨fitX ms 0 0,fitX ms 1 0,fitX ms 2 0⟩,⟨fitX ms 0 1,fitX ms 1 1,fitX ms 2 1⟩,⟨fitX ms 0 2,fitX ms 1 2,fitX ms 2 2⟩⟩
def K0e(ms:List Mk):Cq:=detD 3 (nrmA ms.length (fitA ms))
def fitE(ms:List Mk):Int:=if ms.length<3\/32<ms.length then 4 else if ms.all (λm=>m.p.real)=true then(if K0e ms=Cq.zero then 6 else 0)else 1
theorem o0z(ms:List Mk)(a:Nat):detD 3 (augN 3 (nrmA ms.length (fitA ms)) (nrmB ms.length (fitA ms) (fitB ms a)))=K0e ms:=rfl
theorem c0l{n:Nat}(hn:n<=32):(1+n*(2*1100+2)+2)*6^3+3*((1+n*(2*1100+2)+2)*6^3+Xb ((1+n*(2*1100+2)+2)*6^3) 3+2)<=2^36/\Xb ((1+n*(2*1100+2)+2)*6^3) 3<=2^32:=by
 have hT:(1+n*(2*1100+2)+2)*6^3<=15300000:=by omega
 generalize (1+n*(2*1100+2)+2)*6^3=T at *;have e:Xb T 3<=204*T+408:=by simp only[Xb]; omega
 omega
theorem I13{ms:List Mk}(h:∀m∈ms,m.in64)(r k:Nat):(fitA ms r k).sz<=64:=by
 have hd:(ms.getD r mkD).in64:=by
  rcases Ad r ms.length with g|g
  . have e:ms.getD r mkD=ms[r]:=by simp[List.getD,g]
    rw[e]; exact h _ (Ax g)
  have e:ms.getD r mkD=mkD:=by simp[List.getD,g]
  rw[e]; exact⟨⟨by show(-9223372036854775808:Int)<=0; decide,by show(0:Int)<=9223372036854775807; decide⟩,⟨by show(-9223372036854775808:Int)<=0; decide,by show(0:Int)<=9223372036854775807; decide⟩⟩
 unfold fitA;split
 . exact W0s ⟨by decide,by decide⟩
 split
 . exact W0s hd.1
 exact W0s hd.2
theorem d0l{ms:List Mk}{r:Nat}(h:r<ms.length):ms[r]?=some (ms.getD r mkD):=by simp[List.getD,h]
theorem i0w{V:View}{s:M03}{p:P3}(h:l07 V s p){a:Nat}(ha:a<3) :
 ∃y:NumV,List.take 5 (List.drop (a*5) (s.x.val.cells.toList++(s.y.val.cells.toList++s.z.val.cells.toList)))=y.val.cells.toList/\Q00 V y (b0l p a):=by
 obtain⟨x,⟨y,rfl,hy⟩,_,hg⟩:=(G0t h.x h.y h.z).at (i:=a) (z:=b0l p a) (by
  have:a=0\/a=1\/a=2:=by omega
  rcases this with rfl|rfl|rfl<;>rfl)
 rw[Am]at hg;exact⟨y,hg,hy⟩
theorem J13{p:P3}{S:Nat}(h:p.szle S)(a:Nat):(b0l p a).sz<=S:=by
 unfold b0l;split
 . exact h.1
 split
 . exact h.2.1
 exact h.2.2
theorem Y0h{V:View}{o:List Value}{g:Nat->Cq}(h:f01 5 numC V o (rowL 9 g))(k:Nat)(hk:k<3) :
 ∃a:O04,List.take 15 (List.drop (k*15) o)=a.val.cells.toList/\Q00 V a.e0 (g (3*k))/\Q00 V a.e1 (g (3*k+1))/\Q00 V a.e2 (g (3*k+2)):=by
 have h1:=(h.drop (3*k)).take 3;have e:List.take 3 (List.drop (3*k) (rowL 9 g))=[g (3*k),g (3*k+1),g (3*k+2)]:=by
  have:k=0\/k=1\/k=2:=by omega
  rcases this with rfl|rfl|rfl<;>rfl
 have e1:3*k*5=k*15:=by omega
 rw[e,e1]at h1;obtain⟨a,ho,h2,h3,h4⟩:=w0q h1;exact⟨a,ho,h2,h3,h4⟩
def F0d(ms:List Mk)(a k:Nat):Nat->Cq:=λq=>if q%3<a\/(q%3=a/\q / 3<k)then fitX ms (q%3) (q / 3)else Cq.zero
theorem K13(ms:List Mk)(r:Nat):rowL 3 (fitA ms r)=[intQ 1,intQ (ms.getD r mkD).i,intQ (ms.getD r mkD).j]:=rfl
theorem q15{V:View}{b:Nat}{a1 a2 a3:NumV}{x y z:Cq}(hb:V b=some (a1.val.cells.toList++(a2.val.cells.toList++a3.val.cells.toList)).toArray)(h1:Q00 V a1 x)(h2:Q00 V a2 y)(h3:Q00 V a3 z) :
 n00 5 numC V ⟨some ⟨b,0,none⟩,3,3⟩ [x,y,z] :=
 n00.of_block (o:=a1.val.cells.toList++(a2.val.cells.toList++a3.val.cells.toList)) (o':=[]) (b:=b) (λ_=>by rw[List.append_nil]; exact hb) (G0t h1 h2 h3) rfl (An9 _) (λ_=>rfl)
set_option maxHeartbeats 1000000 in
theorem A11{V:View}{s:Sl}{ms:List Mk}(h:a0l V s ms)(hi:∀m∈ms,m.in64)(hz:∀m∈ms,m.p.szle 1100) :
 a00 prog L0u #[s.v] V λv V'=>∃r:S05,v = .tuple #[r.val,.int .i64 (fitE ms)]/\s0b V' r (if fitE ms=0 then fitF ms else F3.zero) /\
  (fitE ms=0->(fitF ms).szle (2^32)):=by
 have hl:s.len=ms.length:=h.len;let n:=ms.length;let A:=fitA ms;have nil:∀(e:Int) (V':View),fitE ms=e->e≠0->∃r:S05,Value.tuple #[(S05.mk ⟨zN,zN,zN⟩ ⟨zN,zN,zN⟩ ⟨zN,zN,zN⟩).val,.int .i64 e]=Value.tuple #[r.val,.int .i64 (fitE ms)] /\
  s0b V' r (if fitE ms=0 then fitF ms else F3.zero)/\(fitE ms=0->(fitF ms).szle (2^32)):=λe V' he hne=>by
  rw[he,if_neg hne]; exact⟨_,rfl,s0b.zero V',λh=>absurd h hne⟩
 let rowN:View->List Value->List Cq->Prop:=λV x row=>∃s:Sl,x=[s.v]/\n00 5 numC V s row
 have rowN_le:∀ {V V':View},V.le V'->∀x row,rowN V x row->rowN V' x row:=λhle x row ⟨s,e,hs⟩=>⟨s,e,H01.le hle hs⟩
 refine x0s s V _ (λ_ _ _=>3<=n/\n<=32)
  (λ_ x V'=>∃(t:Nat) (l:List Value),x.t26=t/\t<=n/\G02 1 x.t4l x.t4c x.o4 l/\x.t4l=t/\f01 1 rowN V' l (matL t 3 A)/\∀m∈ms.take t,m.p.real=true) (λ_ x _=>n-x.t26.toNat)
  (λ_ x V'=>∃a:Nat,x.t48=a/\a<=3/\f01 5 numC V' x.o7 (rowL 9 (F0d ms a 0))/\(0<a->K0e ms≠Cq.zero/\∀b,b<a->∀k,k<3->(fitX ms b k).sz<=2^32)) (λ_ x _=>3-x.t48.toNat)
  (λc x V'=>∃(a t:Nat) (l:List Value),c.t48=a/\a<3/\x.t53=t/\t<=n/\G02 5 x.t9l x.t9c x.o9 l/\x.t9l=t/\f01 5 numC V' l (rowL t (fitB ms a))/\f01 5 numC V' x.o7 (rowL 9 (F0d ms a 0))) (λ_ x _=>n-x.t53.toNat)
  (λc x V'=>∃a k:Nat,c.t48=a/\a<3/\x.t77=k/\k<=3/\f01 5 numC V' x.o7 (rowL 9 (F0d ms a k))) (λ_ x _=>3-x.t77.toNat) ?_
 rw[hl];refine⟨⟨λh3=>nil 4 V ?_ (by decide),λh3=>⟨λh4=>nil 4 V ?_ (by decide),λh4 => ?_⟩⟩,?_⟩
 . unfold fitE; rw[if_pos (.inl (by simp at h3; omega))]
 . unfold fitE; rw[if_pos (.inr (by simp at h4; omega))]
 . exact⟨by simp at h3; omega,by simp at h4; omega⟩
 rintro⟨o2⟩ V1 l1 ⟨hn3,hn32⟩;have hn3:3<=ms.length:=hn3;have hn32:ms.length<=32:=hn32;refine⟨⟨0,[],rfl,by omega,Hg,rfl,rfl,by simp⟩,?_⟩;rintro⟨t4l,t4c,t26,o2',o4⟩ V2 l2 ⟨t,l,et,ht,hL,e4,hC,hreal⟩;dsimp only at et hL e4 hC ⊢;subst et; subst e4;have L2:=Gx l1 l2;refine⟨λhlt => ?_,λhge => ?_⟩
 . have hk:t4l<ms.length:=by simp at hlt; omega
   obtain⟨g1,x,⟨m,rfl,hm⟩,_,hh,hs⟩:=Hf (h.le L2) (t:=(t4l:Int)) (by omega) (z:=ms.getD t4l mkD) (by rw[Aa]; exact d0l hk);rw[hl]at g1;have hmem:ms.getD t4l mkD∈ms:=Bn (d0l hk);obtain⟨i1,i2⟩:=hi _ hmem;refine⟨g1,m,hh,hs,λb1 V3 l3 _ hb1=>(X0y (hm.p.le l3) hb1).mono λv V4 l4 hv=>⟨_,hv,λhr=>nil 1 V4 ?_ (by decide),λhr => ?_⟩⟩
   . have e:(ms.getD t4l mkD).p.real=false:=by simpa using hr
     unfold fitE;rw[if_neg (by omega),if_neg (by
      intro hall;rw[Bk9]at hall;rw[hall _ hmem]at e; simp at e)]
   have hre:(ms.getD t4l mkD).p.real=true:=by simpa using hr
   refine(g0f (by omega) (by omega)).mono λv V5 l5 ⟨r2,hv,h2⟩=>⟨r2,hv,?_⟩;rw[hm.i,hm.j];refine(g0f i1.1 i1.2).mono λv V6 l6 ⟨r3,hv,h3⟩=>⟨r3,hv,?_⟩;refine(g0f i2.1 i2.2).mono λv V7 l7 ⟨r4,hv,h4⟩=>⟨r4,hv,λb2 V8 l8 _ hb2 b3 V9 l9 _ hb3 => ?_⟩;have M9:=Gx l8 l9;have hrow:n00 5 numC V9 ⟨some ⟨b2,0,none⟩,3,3⟩ (rowL 3 (fitA ms t4l)):=by
    rw[K13];exact q15 (l9 _ _ hb2) (h2.le (Gx l6 (Gx l7 M9))) (h3.le (Gx l7 M9)) (h4.le M9)
   have hnew:V9.has (some (Addr.mk b3 0 none)) [Value.slice (some ⟨b2,0,none⟩) 3 3]:=e05 (cs:=[Value.slice (some ⟨b2,0,none⟩) 3 3]) (j:=0) hb3 (λi v hv=>by rw[Am]; exact hv) rfl;refine⟨l,_,hL,hnew,rfl,by intro v hv; simp at hv; subst hv; rfl,by unfold maxLen; omega,by omega,λc1 l3' hl3 => ?_⟩;rw[i64w (by omega) (by omega)];refine⟨⟨t4l+1,_,by omega,hk,hl3,rfl,?_,λq hq => ?_⟩,by omega⟩
   . have e:matL (t4l+1) 3 A=matL t4l 3 A++[rowL 3 (A t4l)]:=by simp[matL,Cz]
     rw[e];exact(hC.imp (rowN_le (Gx l3 (Gx l4 (Gx l5 (Gx l6 (Gx l7 M9))))))).append (Hd rfl ⟨_,rfl,hrow⟩)
   rw[Ce,d0l hk]at hq;simp only[Fo,Cb,Ca]at hq;rcases hq with hq|hq
   . exact hreal q hq
   subst hq; exact hre
 have et:t4l=ms.length:=by simp at hge; have:t4l<=ms.length:=ht; omega
 subst et;rw[Cu]at hreal;have hall:ms.all (λm=>m.p.real)=true:=Bk9.2 hreal;intro b4 V10 l10 hb4;have hM:c01 5 numC V10 ⟨lstA b4 t4c,ms.length,t4c⟩ (matL ms.length 3 A):=k04 hL hb4 (hC.imp (rowN_le l10)) (by rw[O00]);have L10:=Gx L2 l10;refine⟨⟨0,rfl,by omega,?_,λh=>absurd h (by omega)⟩,?_⟩
 . have e:rowL 9 (F0d ms 0 0)=List.replicate 9 Cq.zero:=by
     rw[<-J0h]; exact I06 λq _=>by unfold F0d; rw[if_neg (by omega)]
   rw[e]; exact u05.zeros V10 9
 rintro⟨t48,o2'',o7⟩ V11 l11 ⟨a,ea,ha,hP,hdone⟩;dsimp only at ea hP ⊢;subst ea;have L11:=Gx L10 l11;refine⟨λhlt=>⟨⟨a,0,[],rfl,by simp at hlt; omega,rfl,by omega,Hg,rfl,rfl,hP⟩,?_⟩,λhge => ?_⟩
 . have ha3:a<3:=by simp at hlt; omega
   rintro⟨t9l,t9c,t53,o2x,o7',o9⟩ V12 l12 ⟨a',t,lb,ea,_,et,ht,hLb,e9,hCb,hP'⟩;dsimp only at ea et hLb e9 hCb hP' ⊢;obtain rfl:a=a':=by omega
   subst et; subst e9;have L12:=Gx L11 l12;refine⟨λhlt2 => ?_,λhge2 => ?_⟩
   . have hk:t9l<ms.length:=by simp at hlt2; omega
     obtain⟨g1,x,⟨m,rfl,hm⟩,_,hh,hs⟩:=Hf (h.le L12) (t:=(t9l:Int)) (by omega) (z:=ms.getD t9l mkD) (by rw[Aa]; exact d0l hk);rw[hl]at g1;refine⟨g1,m,hh,hs,(T0k m.at_).mono λv V13 l13 hv=>⟨_,hv,⟨by omega,by omega⟩,?_⟩⟩;obtain⟨y,hy1,hy2⟩:=i0w (hm.p.le l13) ha3;refine⟨y,by rw[Aa]; exact hy1,λb5 V14 l14 _ hb5 => ?_⟩;have hnew:V14.has (some (Addr.mk b5 0 none)) y.val.cells.toList:=e05 (cs:=y.val.cells.toList) (j:=0) hb5 (λi v hv=>by rw[Am]; exact hv) rfl;have hyc:numC V14 y.val.cells.toList (fitB ms a t9l):=⟨y,rfl,hy2.le l14⟩;refine⟨lb,_,hLb,hnew,rfl,oneN hyc,by unfold maxLen; omega,by omega,λc2 l6 hl6 => ?_⟩;rw[i64w (by omega) (by omega)];have M14:=Gx l13 l14;refine⟨⟨a,t9l+1,_,rfl,ha3,by omega,hk,hl6,rfl,?_,hP'.imp (Hh M14)⟩,by omega⟩;rw[<-K0c];exact(hCb.imp (Hh M14)).append (Hd rfl hyc)
   have et:t9l=ms.length:=by simp at hge2; have:t9l<=ms.length:=ht; omega
   subst et;intro b6 V15 l15 hb6;have hb:H01 V15 ⟨lstA b6 t9c,ms.length,t9c⟩ (rowL ms.length (fitB ms a)):=k04 hLb hb6 (hCb.imp (Hh l15)) (by rw[B00]);have M15:=Gx l11 (Gx l12 l15);have sB:∀r,r<ms.length->(fitB ms a r).sz<=1100:=λr hr=>J13 (hz _ (Bn (d0l hr))) a
   refine(b0w 1100 (hM.le Hh M15) hb (by omega) hn32 (by omega) (λr k _ _=>Ah (I13 hi r k) (by omega)) sB _ rfl (c0l hn32).1 (Ah (c0l hn32).2 (by decide))).mono λv V16 l16 ⟨r6,h6⟩ => ?_;have hiff:=I0t (n:=3) (w:=4) (by omega) (by omega) (by omega) (augN 3 (nrmA ms.length (fitA ms)) (nrmB ms.length (fitA ms) (fitB ms a)));rw[o0z]at hiff;cases hst:(elim numO 3 4 (augN 3 (nrmA ms.length (fitA ms)) (nrmB ms.length (fitA ms) (fitB ms a)))).2.2 with
   | some c =>
     rw[show(elim numO 3 (3+1) (augN 3 (nrmA ms.length A) (nrmB ms.length A (fitB ms a)))).2.2=some c from hst]at h6;obtain⟨hv,hr⟩:=h6;have hd:K0e ms=Cq.zero:=Classical.byContradiction λg=>by rw[hiff.2 g]at hst; simp at hst
     refine⟨r6,6,hv,λ_=>nil 6 V16 ?_ (by decide),λhf=>by simp at hf⟩;unfold fitE;rw[if_neg (by omega),if_pos hall,if_pos hd]
   | none =>
     rw[show(elim numO 3 (3+1) (augN 3 (nrmA ms.length A) (nrmB ms.length A (fitB ms a)))).2.2=none from hst]at h6;obtain⟨hv,hx,hsz⟩:=h6;have hx:H01 V16 r6 (rowL 3 (fitX ms a)):=hx;have hxl:r6.len=3:=by have:=hx.len; rw[B00]at this; exact this
     have hd:K0e ms≠Cq.zero:=hiff.1 hst;refine⟨r6,0,hv,λhf=>by simp at hf,λ_=>⟨⟨a,0,rfl,ha3,rfl,by omega,hP'.imp (Hh (Gx l15 l16))⟩,?_⟩⟩;rintro⟨t77,o7''⟩ V17 l17 ⟨a',k,ea,_,ek,hk3,hP3⟩;dsimp only at ea ek hP3 ⊢;obtain rfl:a=a':=by omega
     subst ek;rw[hxl];refine⟨λhlt3 => ?_,λhge3 => ?_⟩
     . have hk:k<3:=by simp at hlt3; omega
       obtain⟨d1,y,hh,hs,hy⟩:=(hx.le l17).get (t:=(k:Int)) (by omega) (by rw[B00,Aa]; exact hk);rw[hxl]at d1;have hyk:Q00 V17 y (fitX ms a k):=by
        have e:nth (rowL 3 (fitX ms a)) (Int.toNat (k:Int))=fitX ms a k:=by rw[Aa]; exact u0d hk _
        rw[e]at hy; exact hy
       refine⟨d1,y,hh,hs,⟨by omega,by omega⟩,⟨by omega,by omega⟩,?_,?_⟩
       . rw[hP3.length,B00,Aa,Aa]; omega
       rw[i64w (by omega) (by omega)];refine⟨⟨a,k+1,rfl,ha3,by omega,by omega,?_⟩,by omega⟩;have hset:=hP3.set0 (i:=3*k+a) (by rw[B00]; omega) (lenN y) (y0y hyk);rw[T0g]at hset;rw[Aa,Aa];have e1:0+(3*k+a)*5=0+k*15+a*5:=by omega
       rw[e1]at hset;rw[I06 (g:=F0d ms a (k+1)) (λq hq=>by
        unfold F0d;by_cases e:q=3*k+a
        . subst e;have m1:(3*k+a)%3=a:=by omega
          have m2:(3*k+a) / 3=k:=by omega
          rw[if_pos rfl,m1,m2,if_pos (by omega)]
        rw[if_neg e];by_cases c:q%3<a\/(q%3=a/\q / 3<k)
        . rw[if_pos c,if_pos (by omega)]
        rw[if_neg c,if_neg (by omega)])]at hset
       exact hset
     have ek:k=3:=by simp at hge3; omega
     subst ek;rw[i64w (by omega) (by omega)];refine⟨⟨a+1,by omega,by omega,?_,λ_=>⟨hd,λb hb k hk => ?_⟩⟩,by omega⟩
     . rw[I06 (g:=F0d ms a 3) (λq hq=>by
         unfold F0d;by_cases c:q%3<a+1\/(q%3=a+1/\q / 3<0)
         . rw[if_pos c,if_pos (by omega)]
         rw[if_neg c,if_neg (by omega)])]
       exact hP3
     by_cases e:b<a
     . exact(hdone (by omega)).2 b e k hk
     have:b=a:=by omega
     subst this;have:=hsz k hk;exact Ah this (c0l hn32).2
 have ea:a=3:=by simp at hge; omega
 subst ea;obtain⟨hd,hsz⟩:=hdone (by omega);have hE:fitE ms=0:=by unfold fitE; rw[if_neg (by omega),if_pos hall,if_neg hd]
 have hg:∀k c,k<3->c<3->F0d ms 3 0 (3*k+c)=fitX ms c k:=λk c hk hc=>by
  unfold F0d;have m1:(3*k+c)%3=c:=by omega
  have m2:(3*k+c) / 3=k:=by omega
  rw[m1,m2,if_pos (by omega)]
 obtain⟨a0,o0,p00,p01,p02⟩:=Y0h hP 0 (by omega);obtain⟨a1,o1,p10,p11,p12⟩:=Y0h hP 1 (by omega);obtain⟨a2,o2,p20,p21,p22⟩:=Y0h hP 2 (by omega);refine⟨⟨by omega,by omega⟩,a0,o0,⟨by omega,by omega⟩,a1,o1,⟨by omega,by omega⟩,a2,o2,?_⟩;refine(o0h a0).mono λv V18 l18 hv=>⟨_,hv,(o0h a1).mono λv V19 l19 hv=>⟨_,hv,(o0h a2).mono λv V20 l20 hv=>⟨_,hv,⟨⟨a0.e0,a0.e1,a0.e2⟩,⟨a1.e0,a1.e1,a1.e2⟩,⟨a2.e0,a2.e1,a2.e2⟩⟩,?_,?_,?_⟩⟩⟩
 . rw[hE]
 . rw[hE,if_pos rfl];have K:=Gx l18 (Gx l19 l20);have g:=λk c hk hc (x:NumV) (hx:Q00 V11 x (F0d ms 3 0 (3*k+c)))=>(show Q00 V20 x (fitX ms c k)from by rw[hg k c hk hc]at hx; exact hx.le K)
   exact⟨⟨g 0 0 (by omega) (by omega) _ p00,g 0 1 (by omega) (by omega) _ p01,g 0 2 (by omega) (by omega) _ p02⟩,⟨g 1 0 (by omega) (by omega) _ p10,g 1 1 (by omega) (by omega) _ p11,g 1 2 (by omega) (by omega) _ p12⟩,
    ⟨g 2 0 (by omega) (by omega) _ p20,g 2 1 (by omega) (by omega) _ p21,g 2 2 (by omega) (by omega) _ p22⟩⟩
 intro _;exact⟨⟨hsz 0 (by omega) 0 (by omega),hsz 1 (by omega) 0 (by omega),hsz 2 (by omega) 0 (by omega)⟩,⟨hsz 0 (by omega) 1 (by omega),hsz 1 (by omega) 1 (by omega),hsz 2 (by omega) 1 (by omega)⟩,⟨hsz 0 (by omega) 2 (by omega),hsz 1 (by omega) 2 (by omega),hsz 2 (by omega) 2 (by omega)⟩⟩
theorem B11(f:Nat->Cq):sq f 0 3=Cq.zero+f 0+f 1+f 2:=rfl
theorem M13{ms:List Mk}(h:K0e ms≠Cq.zero)(a:Nat)(x:Nat->Cq):Go.Vc.Sys 3 (augN 3 (nrmA ms.length (fitA ms)) (nrmB ms.length (fitA ms) (fitB ms a))) x↔∀i,i<3->x i=fitX ms a i:=by
 have hiff:=I0t (n:=3) (w:=4) (by omega) (by omega) (by omega) (augN 3 (nrmA ms.length (fitA ms)) (nrmB ms.length (fitA ms) (fitB ms a)));rw[o0z]at hiff;exact A0s (n:=3) (hiff.2 h) Cq.zero x
theorem N13{n:Nat}{A:Nat->Nat->Cq}{b:Nat->Cq}{i k:Nat}(hk:k<n):augN n A b i k=A i k:=by unfold augN d09; rw[if_pos hk]
theorem P15{n:Nat}{A:Nat->Nat->Cq}{b:Nat->Cq}{i:Nat}:augN n A b i n=b i:=by unfold augN d09; rw[if_neg (by omega)]
theorem C11{ms:List Mk}{a:Nat}{x:Nat->Cq}:Go.Vc.Sys 3 (augN 3 (nrmA ms.length (fitA ms)) (nrmB ms.length (fitA ms) (fitB ms a))) x ↔
 ∀i,i<3->Cq.zero+nrmA ms.length (fitA ms) i 0*x 0+nrmA ms.length (fitA ms) i 1*x 1+nrmA ms.length (fitA ms) i 2*x 2=nrmB ms.length (fitA ms) (fitB ms a) i:=by
 unfold Go.Vc.Sys;constructor<;>intro h i hi<;>have:=h i hi<;>rw[B11,N13 (by omega),N13 (by omega),N13 (by omega),P15]at *<;>assumption
def M0o(f:F3)(a:Nat):Nat->Cq:=λk=>b0l (if k=0 then f.o else if k=1 then f.u else f.v) a
theorem j0w(f:F3)(i j:Cq)(a:Nat):b0l (C0f f i j) a=M0o f a 0+i*M0o f a 1+j*M0o f a 2:=by
 unfold b0l C0f M0o C0i b0l;by_cases h0:a=0
 . simp[h0]
 by_cases h1:a=1<;>simp[h0,h1]
theorem k0r{ms:List Mk}{f:F3}{a i:Nat}:∀t,(∀r,r<t->fitB ms a r=b0l (C0f f (intQ (ms.getD r mkD).i) (intQ (ms.getD r mkD).j)) a) ->
 Cq.zero+nrmA t (fitA ms) i 0*M0o f a 0+nrmA t (fitA ms) i 1*M0o f a 1+nrmA t (fitA ms) i 2*M0o f a 2=nrmB t (fitA ms) (fitB ms a) i
 | 0,_=>by
   show Cq.zero+Cq.zero*_+Cq.zero*_+Cq.zero*_=Cq.zero;refine Hb ?_ ?_<;>simp only[P01,Q01,F01,G01,Cq.zero]<;>grind
 | t+1,h=>by
   have ih:=k0r (f:=f) (i:=i) t λr hr=>h r (by omega)
   have e:=h t (by omega);rw[j0w]at e;have s1:∀k,nrmA (t+1) (fitA ms) i k=nrmA t (fitA ms) i k+adjQ (fitA ms) i t*fitA ms t k:=λk=>by show sq _ 0 (t+1)=_; rw[sq,Am]; rfl
   have s2:nrmB (t+1) (fitA ms) (fitB ms a) i=nrmB t (fitA ms) (fitB ms a) i+adjQ (fitA ms) i t*fitB ms a t:=by show sq _ 0 (t+1)=_; rw[sq,Am]; rfl
   rw[s1,s1,s1,s2,<-ih,e];have f0:fitA ms t 0=intQ 1:=by unfold fitA; rw[if_pos rfl]
   have f1:fitA ms t 1=intQ (ms.getD t mkD).i:=by unfold fitA; rw[if_neg (by decide),if_pos rfl]
   have f2:fitA ms t 2=intQ (ms.getD t mkD).j:=by unfold fitA; rw[if_neg (by decide),if_neg (by decide)]
   rw[f0,f1,f2];refine Hb ?_ ?_<;>simp only[P01,Q01,F01,G01,Cq.zero,intQ]<;>grind
theorem p0z{ms:List Mk}{f:F3}(h:K0e ms≠Cq.zero)(e:∀r,r<ms.length->(ms.getD r mkD).p=C0f f (intQ (ms.getD r mkD).i) (intQ (ms.getD r mkD).j)):fitF ms=f:=by
 have k:∀a i,i<3->M0o f a i=fitX ms a i:=λa=>(M13 h a (M0o f a)).1 (C11.2 λi _=>k0r ms.length λr hr=>by
  show b0l (ms.getD r mkD).p a=_;rw[<-e r hr])
 unfold fitF;rw[<-k 0 0 (by omega),<-k 0 1 (by omega),<-k 0 2 (by omega),<-k 1 0 (by omega),<-k 1 1 (by omega),<-k 1 2 (by omega),<-k 2 0 (by omega),<-k 2 1 (by omega),<-k 2 2 (by omega)];rfl
theorem X0s{K:Nat->Nat->Bool}{M:Nat->Nat->Cq}{i k s:Nat}(h:(M i k).sz<=s)(h1:1<=s):(ledM K M i k).sz<=s:=by
 unfold ledM;split
 . exact h
 exact Ah K06 h1
theorem j12{z w:Cq}{s u:Nat}(hz:z.sz<=s)(hw:w.sz<=u):(z*w).sz<=s+u+1:=by have:=D02 z w; omega
abbrev mfld(n m:Nat)(M:Nat->Nat->Cq):List (List Cq):=matL (2^n) (2^m) (dft true n m M)
theorem e0l{n m:Nat}{M N:Nat->Nat->Cq}(h:∀i k,i<2^n->k<2^m->M i k=N i k):mfld n m M=mfld n m N:=b0f λi k _ _=>H0y h i k
theorem D11{n m:Nat}(h:Dims n m)(A:Nat->Nat->Cq):mfld n m (dft false n m A)=matL (2^n) (2^m) A:=b0f λi k hi hk=>i11 h.hn h.hm A hi hk
theorem q0z{V:View}{g wg kg:x00}{w v:Sl}{n m:Nat}(h:Dims n m){K:Nat->Nat->Bool}{W M:Nat->Nat->Cq}(s u:Nat)(hg:c01 5 numC V g.rows (mfld n m M))(hq:H01 V w (k03 m))(hv:H01 V v (k03 n))
 (hw:c01 5 numC V wg.rows (matL (2^n) (2^m) W)) (hk:c01 1 Go.Vc.boolC V kg.rows (matL (2^n) (2^m) K)) (sM:∀i k,i<2^n->k<2^m->(M i k).sz<=s) (sW:∀i k,i<2^n->k<2^m->(W i k).sz<=u) (hsz:s+u<=2^14) :
 a00 prog U0d #[g.val,w.v,v.v,wg.val,kg.val] V λx V'=>∃r:x00,x = .tuple #[r.val,.int .i64 0]/\c01 5 numC V' r.rows (mfld n m (ledM K λi k=>M i k*W i k)):=by
 have hC:∀i k,i<2^n->k<2^m->ledM K (λi k=>chg false (dft false n m (dft true n m M) i k) (W i k)) i k=ledM K (λi k=>M i k*W i k) i k:=λi k hi hk=>Y0m λ_=>by
  show dft false n m (dft true n m M) i k*W i k=_;rw[E0o h.hn h.hm _ hi hk]
 refine M0d g w v wg kg V _ ((W0t false h (16*s+165+u) (s+u+1) hg hq hv hw hk (by omega) (by omega) (λi k hi hk=>by have:=U0t (back:=true) h.hn h.hm sM hi hk; omega) (λi k hi hk=>by have:=sW i k hi hk; omega) (λ_ _ _ _ _=>rfl) (by omega) (by omega) (λi k hi hk => ?_)).mono λx V1 _ ⟨r,hx,hr⟩=>⟨r,0,hx,r,rfl,?_⟩)
 . rw[hC i k hi hk];exact X0s (j12 (sM i k hi hk) (sW i k hi hk)) (by omega)
 have e:matL (2^n) (2^m) (ledA false n m K W (dft true n m M))=mfld n m (ledM K λi k=>M i k*W i k):=e0l hC;rw[<-e]; exact hr
theorem Y0s{V:View}{g wg kg:x00}{w v:Sl}{n m:Nat}(h:Dims n m){K:Nat->Nat->Bool}{W M:Nat->Nat->Cq}(s:Nat)(hg:c01 5 numC V g.rows (mfld n m M))(hq:H01 V w (k03 m))(hv:H01 V v (k03 n))
 (hw:c01 5 numC V wg.rows (matL (2^n) (2^m) W)) (hk:c01 1 Go.Vc.boolC V kg.rows (matL (2^n) (2^m) K)) (sM:∀i k,i<2^n->k<2^m->(M i k).sz<=s) (sW:∀i k,i<2^n->k<2^m->(W i k).sz<=s) (hsz:s<=2^14) (hne:∀i k,i<2^n->k<2^m->W i k≠Cq.zero) :
 a00 prog O03 #[g.val,w.v,v.v,wg.val,kg.val] V λx V'=>∃r:x00,x = .tuple #[r.val,.int .i64 0]/\c01 5 numC V' r.rows (mfld n m (ledM K λi k=>(M i k).div (W i k))):=by
 have hC:∀i k,i<2^n->k<2^m->ledM K (λi k=>chg true (dft false n m (dft true n m M) i k) (W i k)) i k=ledM K (λi k=>(M i k).div (W i k)) i k:=λi k hi hk=>Y0m λ_=>by
  show chg true (dft false n m (dft true n m M) i k) (W i k)=_;unfold chg;rw[if_pos rfl,if_neg (hne i k hi hk),E0o h.hn h.hm _ hi hk]
 refine n08 g w v wg kg V _ ((W0t true h (17*s+165) (4*s+8) hg hq hv hw hk (by omega) (by omega) (λi k hi hk=>by have:=U0t (back:=true) h.hn h.hm sM hi hk; omega) (λi k hi hk=>by have:=sW i k hi hk; omega) (λi k hi hk _=>by unfold chE; rw[if_neg (λx=>hne i k hi hk x.2)]) (by omega) (by omega) (λi k hi hk => ?_)).mono λx V1 _ ⟨r,hx,hr⟩=>⟨r,0,hx,r,rfl,?_⟩)
 . rw[hC i k hi hk];exact X0s (E0f (sM i k hi hk) (sW i k hi hk)) (by omega)
 have e:matL (2^n) (2^m) (ledA true n m K W (dft true n m M))=mfld n m (ledM K λi k=>(M i k).div (W i k)):=e0l hC;rw[<-e]; exact hr
theorem f0l{z w:Cq}(h:w≠Cq.zero):(z*w).div w=z:=((p0r h).2 rfl).symm
def arr4(a:Z07):List RatV:=[a.e0,a.e1,a.e2,a.e3]
def arr2(a:t09):List RatV:=[a.e0,a.e1]
theorem Z0s{V:View}{g wg kg:x00}{w v:Sl}{n m:Nat}(h:Dims n m){K:Nat->Nat->Bool}{W M:Nat->Nat->Cq}(s:Nat)(hg:c01 5 numC V g.rows (mfld n m M))(hq:H01 V w (k03 m))(hv:H01 V v (k03 n))
 (hw:c01 5 numC V wg.rows (matL (2^n) (2^m) W)) (hk:c01 1 Go.Vc.boolC V kg.rows (matL (2^n) (2^m) K)) (sM:∀i k,i<2^n->k<2^m->(M i k).sz<=s) (sW:∀i k,i<2^n->k<2^m->(W i k).sz<=s) (hsz:s<=2^14)
 {i0 k0:Nat} (hi0:i0<2^n) (hk0:k0<2^m) (hK:K i0 k0=true) (hW:W i0 k0=Cq.zero) :
 a00 prog O03 #[g.val,w.v,v.v,wg.val,kg.val] V λx V'=>∃r:x00,x = .tuple #[r.val,.int .i64 3]:=by
 have p1:=h.n1; have p2:=h.n4; have p3:=h.m1; have p4:=h.m4;have ok:=L0y h (dft true n m M);have fit:f0h (mfld n m M) (matL (2^n) (2^m) W) (matL (2^n) (2^m) K):=by
  unfold f0h;simp only[O00,p06 _ p1,and_self]
 have hbad:d0j true (matL (2^n) (2^m) W) (matL (2^n) (2^m) K) (2^m) (2^n) 0=true:=by
  unfold d0j;rw[Gg];refine .inl ?_;rw[List.any_eq_true];refine⟨i0,by simpa using hi0,?_⟩;rw[List.any_eq_true];refine⟨k0,by simpa using hk0,?_⟩;unfold badC;rw[j09 _ _ hi0 hk0,j09 _ _ hi0 hk0,hK,hW];decide
 have hE:ledE true (mfld n m M) (k03 m) (k03 n) (matL (2^n) (2^m) W) (matL (2^n) (2^m) K)=3:=by
  unfold ledE;rw[if_pos ⟨ok,fit⟩,O00,p06 _ p1,hbad]; rfl
 have zF:∀i k,i<2^n->k<2^m->(dft true n m M i k).sz<=17*s+165:=λi k hi hk=>by have:=U0t (back:=true) h.hn h.hm sM hi hk; omega
 refine n08 g w v wg kg V _ ((Q0t true (17*s+165) 4 (64*(64*(17*s+165+4+2)+9+4+2)+9) (4*s+8) hg (z0b _ p1) hq hv hw (z0b W p1) hk (z0b K p1) (Q0c zF) (k0h h.hm) (k0h h.hn) (by omega) (by decide) (An9 _) (by omega) (Q0c λi k hi hk=>by have:=sW i k hi hk; omega) (λi k hi hk => ?_) (by omega) (by omega)).mono λx V1 _ ⟨r,hx,hr⟩=>⟨r,_,hx,r,by rw[hE]⟩);rw[O00]at hi;rw[p06 _ p1]at hk;unfold ledC;rw[j0h false _ h.hn h.hm,j09 _ _ hi hk,j09 _ _ hi hk,j09 _ _ hi hk,E0o h.hn h.hm _ hi hk];split
 . unfold chg;rw[if_pos rfl];split
   . exact Ah K06 (by omega)
   exact E0f (sM i k hi hk) (sW i k hi hk)
 exact Ah K06 (by omega)
theorem K0i{x:Int}(h:(x:Rat)=0):x=0:=Rat.intCast_inj.1 (show(x:Rat)=((0:Int):Rat)from h)
theorem kilo.ok{r:RatV}(h:kilo r):ratI r:=by
 obtain⟨⟨a,b⟩,⟨c,d⟩,e,f⟩:=h;exact⟨⟨by omega,by omega⟩,⟨by omega,by omega⟩,by omega,by omega⟩
theorem N0o{r:RatV}(h:kilo r):(ratQ r).sz<=10:=by
 obtain⟨⟨a,b⟩,⟨c,d⟩,e,f⟩:=h;have key:Rep (ratQ r) (if r.den<0 then -r.re else r.re) (if r.den<0 then -r.im else r.im) (if r.den=0 then 1 else r.den.natAbs):=by
  unfold ratQ;split
  . rename_i z;rw[if_neg (by omega),if_neg (by omega)];refine⟨by omega,?_,?_⟩<;>simp only[]<;>rw[Bm]<;>simp<;>grind
  rename_i z;by_cases n:r.den<0
  . rw[if_pos n,if_pos n];have e:((r.den.natAbs:Nat):Rat) = -(r.den:Rat):=by
     have:((r.den.natAbs:Nat):Int) = -r.den:=by omega
     have e2:(((r.den.natAbs:Nat):Int):Rat)=((-r.den:Int):Rat):=by rw[this]
     rw[Es9]at e2; exact e2
    have hd:(r.den:Rat)≠0:=λq=>z (K0i q)
    have neg:∀x:Int,(x:Rat) / (r.den:Rat)=((-x:Int):Rat) / -(r.den:Rat):=λx=>by
     rw[Es9,Bm,Bm];grind
    exact⟨by omega,by simp only[e]; exact neg _,by simp only[e]; exact neg _⟩
  rw[if_neg n,if_neg n];have e:((r.den.natAbs:Nat):Rat)=(r.den:Rat):=by
   have:((r.den.natAbs:Nat):Int)=r.den:=by omega
   rw[<-this]; rfl
  exact⟨by omega,by simp only[e],by simp only[e]⟩
 refine key.sz ?_ ?_ ?_
 . exact k02 (by split<;>omega)
 . exact k02 (by split<;>omega)
 exact k02 (by split<;>omega)
theorem Z0h{x:Int}(h:(0:Rat)<(x:Rat)):(1:Rat)<=(x:Rat):=by
 have h1:(0:Int)<x:=by
  refine Int.not_le.1 λc => ?_;have:(x:Rat)<=((0:Int):Rat):=Ex.2 c;have e:((0:Int):Rat)=0:=rfl;rw[e]at this;grind
 have:((1:Int):Rat)<=(x:Rat):=Ex.2 h1;exact this
theorem l0r{a d:Int}(h:kilo ⟨a,0,d⟩):∃u:Rat,ratQ ⟨a,0,d⟩=rq u/\(0<u->3<=u*4000000):=by
 obtain⟨⟨h1,h2⟩,_,h3,h4⟩:=h;have h1 : -1000<=a:=h1;have h2:a<=1000:=h2;have h3 : -1000<=d:=h3;have h4:d<=1000:=h4;unfold ratQ;by_cases z:d=0
 . refine⟨(a:Rat),?_,λp => ?_⟩
   . rw[if_pos z]; rfl
   have:=Z0h p; grind
 have hd:(d:Rat)≠0:=λq=>z (K0i q)
 refine⟨(a:Rat) / (d:Rat),?_,λp => ?_⟩
 . rw[if_neg z];refine Hb rfl ?_;show((0:Int):Rat) / (d:Rat)=0;rw[Bm]; simp
 have e:(a:Rat) / (d:Rat)*(d:Rat)=(a:Rat):=Fm9 hd;generalize (a:Rat) / (d:Rat)=u at *;have d1:((-1000:Int):Rat)<=(d:Rat):=Ex.2 h3;have d2:(d:Rat)<=((1000:Int):Rat):=Ex.2 h4;have c1:((-1000:Int):Rat) = -1000:=rfl;have c2:((1000:Int):Rat)=1000:=rfl;rw[c1]at d1;rw[c2]at d2;rcases (Rat.le_total:(d:Rat)<=0\/0<=(d:Rat))with k|k
 . have dn:(d:Rat)<0:=by grind
   have g1:0<u*(-(d:Rat)):=Rat.mul_pos p (by grind);have g2:(1:Rat)<=((-a:Int):Rat):=Z0h (by rw[Es9]; grind);rw[Es9]at g2;have g3:u*(-(d:Rat))<=u*1000:=Rat.mul_le_mul_of_nonneg_left (by grind) (by grind);grind
 have dp:0<(d:Rat):=by grind
 have g1:0<u*(d:Rat):=Rat.mul_pos p dp;have g2:(1:Rat)<=(a:Rat):=Z0h (by grind);have g3:u*(d:Rat)<=u*1000:=Rat.mul_le_mul_of_nonneg_left d2 (by grind);grind
theorem E11(w:Rat)(f:Nat->Cq){k:Nat}(hk:k<4):(flyS w f)[k]?=some ⟨rq (flyT w k),f k⟩:=by
 have hc:k=0\/k=1\/k=2\/k=3:=by omega
 rcases hc with rfl|rfl|rfl|rfl<;>rfl
def flyM(s:Rat):List Mk:=[⟨0,0,⟨rq s,Cq.zero,Cq.zero⟩⟩,⟨1,0,⟨rq s,rq 1,Cq.zero⟩⟩,⟨0,1,⟨rq (s+1),Cq.zero,Cq.zero⟩⟩]
def flyF(s:Rat):F3:=⟨⟨rq s,Cq.zero,Cq.zero⟩,⟨Cq.zero,rq 1,Cq.zero⟩,⟨rq 1,Cq.zero,Cq.zero⟩⟩
theorem flyA(s:Rat):fitA (flyM s)=fitA (flyM 0):=by
 funext r k;unfold fitA;have e1:((flyM s).getD r mkD).i=((flyM 0).getD r mkD).i:=by
  match r with
  | 0=>rfl
  | 1=>rfl
  | 2=>rfl
  | r+3=>rfl
 have e2:((flyM s).getD r mkD).j=((flyM 0).getD r mkD).j:=by
  match r with
  | 0=>rfl
  | 1=>rfl
  | 2=>rfl
  | r+3=>rfl
 rw[e1,e2]
theorem s0z(s:Rat):K0e (flyM s)≠Cq.zero:=by
 have e:K0e (flyM s)=K0e (flyM 0):=by
  unfold K0e;rw[flyA]; rfl
 rw[e]; decide +kernel
theorem i0u{p q:P3}(h1:p.x=q.x)(h2:p.y=q.y)(h3:p.z=q.z):p=q:=by
 cases p; cases q; cases h1; cases h2; cases h3; rfl
theorem p0h(s:Rat)(i j:Rat):C0f (flyF s) (rq i) (rq j)=⟨rq (s+j),rq i,Cq.zero⟩:=by
 refine i0u ?_ ?_ ?_
 . show rq s+rq i*rq 0+rq j*rq 1=_;simp only[J0m,D0f]; congr 1; grind
 . show rq 0+rq i*rq 1+rq j*rq 0=_;simp only[J0m,D0f]; congr 1; grind
 show rq 0+rq i*rq 0+rq j*rq 0=rq 0;simp only[J0m,D0f]; congr 1; grind
theorem t0z(s:Rat):fitF (flyM s)=flyF s:=by
 refine p0z (s0z s) λr hr => ?_;have hc:r=0\/r=1\/r=2:=by
  have:(flyM s).length=3:=rfl;omega
 have z:(rq 0:Cq)=Cq.zero:=rfl;rcases hc with rfl|rfl|rfl
 . show _=C0f (flyF s) (rq 0) (rq 0);rw[p0h];refine i0u ?_ rfl rfl;show rq s=rq (s+0);congr 1; grind
 . show _=C0f (flyF s) (rq 1) (rq 0);rw[p0h];refine i0u ?_ rfl rfl;show rq s=rq (s+0);congr 1; grind
 show _=C0f (flyF s) (rq 0) (rq 1);rw[p0h];exact i0u rfl rfl rfl
theorem O0o(s:Rat):fitE (flyM s)=0:=by
 unfold fitE;have h1:(flyM s).all (λm=>m.p.real)=true:=by
  simp[flyM,P3.real,rq,Cq.zero]
 rw[if_neg (by show ¬(3<3\/32<3); omega),if_pos h1,if_neg (s0z s)]
end Go.Proofs.YtjadnpidefnpoaaGreat
namespace Go.Proofs.YtjadnpidefnpoaaGreat
open Go Go.Vc Go.Proofs Go.ChangeShapes Go.RowKit
abbrev k3(fs:List FK):List FK := .int .i64 :: .int .i64 :: .int .i64::fs
theorem g0n{fs:List FK}{cs:List Value}(h:a0h (k3 fs) cs) :
 ∃(r:RatV) (cs':List Value),cs = .int .i64 r.re :: .int .i64 r.im :: .int .i64 r.den::cs'/\ratI r/\a0h fs cs':=by
 cases cs with
 | nil=>exact h.elim
 | cons x cs =>
   obtain⟨⟨a,e1,w1⟩,h⟩:=h;cases cs with
   | nil=>exact h.elim
   | cons y cs =>
     obtain⟨⟨b,e2,w2⟩,h⟩:=h;cases cs with
     | nil=>exact h.elim
     | cons z cs =>
       obtain⟨⟨c,e3,w3⟩,h⟩:=h;exact⟨⟨a,b,c⟩,cs,by rw[e1,e2,e3],⟨bounds_i64 w1,bounds_i64 w2,bounds_i64 w3⟩,h⟩
theorem i0n{cs:List Value}(h:a0h [] cs):cs=[]:=by
 cases cs with
 | nil=>rfl
 | cons _ _=>exact h.elim
section
variable {H:Type} {enc:TypeId×Value->H} {P:Program} {w:World} {base:Nat} {spare:Nat->Bool} {held:Bool} {t:TypeId} {v:Value} {dd:DataW H} {ps:List MemPlace}
theorem u0z(hk:s0o P 8 t=some (k3 (k3 [])))(h:DataW.Trod enc P w base spare held t v dd ps):∃x:t09,v=x.val/\∀r∈arr2 x,ratI r:=by
 obtain⟨r0,c0,e0,h0,h⟩:=g0n (H0q hk h);obtain⟨r1,c1,e1,h1,h⟩:=g0n h;rw[e1,i0n h]at e0;refine⟨⟨r0,r1⟩,F0i e0 (by rintro⟨⟩),?_⟩;intro r hr;simp only[arr2,Bq,Cp,Eq9]at hr;rcases hr with rfl|rfl
 . exact h0
 exact h1
theorem m0r(hk:s0o P 8 t=some (k3 (k3 (k3 (k3 [])))))(h:DataW.Trod enc P w base spare held t v dd ps):∃x:Z07,v=x.val/\∀r∈arr4 x,ratI r:=by
 obtain⟨r0,c0,e0,h0,h⟩:=g0n (H0q hk h);obtain⟨r1,c1,e1,h1,h⟩:=g0n h;obtain⟨r2,c2,e2,h2,h⟩:=g0n h;obtain⟨r3,c3,e3,h3,h⟩:=g0n h;rw[e1,e2,e3,i0n h]at e0;refine⟨⟨r0,r1,r2,r3⟩,F0i e0 (by rintro⟨⟩),?_⟩;intro r hr;simp only[arr4,Bq,Cp,Eq9]at hr;rcases hr with rfl|rfl|rfl|rfl
 . exact h0
 . exact h1
 . exact h2
 exact h3
end
