/- Part. -/
import Derived.Test.YtjadnpidefnpoaaGreatPartD
import Derived.Laws.StructEq
namespace Go.Proofs.YtjadnpidefnpoaaGreat
open Go Go.Vc Go.Proofs
open Go.Proofs.Tryz (prog)
open Go.IntKind (i64 u64 u32 u8)
def quo(n d:Nat)(l:Int):Nat:=n*2^(max (-l) 0).toNat / (d*2^(max l 0).toNat)
theorem H14(a b:Int):(if a>b then a else b)=max a b:=by split<;>omega
theorem K15{t:Nat}(h:t<=2045)(h':t≠2045):t*2^52+2^53<infR:=by unfold infR; omega
theorem L15{t m:Nat}(h:t<=2045)(hm:m<=2^53)(h':m≠2^53):t*2^52+m<infR:=by unfold infR; omega
theorem M13{L:Int}{t:Nat}(h:(t:Int)=L+1074)(h2:L≠971):t≠2045:=by omega
theorem x0w{L:Int}{t:Nat}(h:(t:Int)=L+1074)(h2:t<=2045) : -1074<=L/\L<=2^40:=by omega
structure Rnd (way:Int) (r n d:Nat):Prop where
 down:way=0->T05 r n d
 up:way=1->IsUp r n d
 any:T05 r n d\/IsUp r n d
theorem n0p{V:View}{sn sd:Sl}{n d:Nat}(way:Int)(hn:L00 V sn n)(hd:L00 V sd d)(d0:0<d)(zn:bl n<=2^30)(zd:bl d<=2^30) :
 a00 prog s0f #[(y0d.mk 53 (-1074) 1023).val,sn.v,sd.v,.int .i64 way] V λv _=>∃r:Nat,v = .float .f64 r/\Rnd way r n d:=by
 have wn44:wn n<=2^43:=p0d (by omega)
 have wd44:wn d<=2^43:=p0d (by omega)
 refine t0q (y0d.mk 53 (-1074) 1023) sn sd way V _ (λ_ x _=>Mag n d x.t9 /\ -(2^31:Int)<=x.t9/\x.t9<=2^31)
  (λc x _=>∃i:Nat,x.t82=i/\i<=c.t80.len/\x.t14=((wval ((dig (quo n d c.t10)).take i):Nat):Int)) (λc x _=>(c.t81-x.t82).toNat)
  (λc x _=>∃m r t:Nat,x.t14=m/\m<=2^53/\(t:Int)=c.t10+1074/\t<=2045/\r=t*2^52+m/\rm r=m*2^t/\Rnd way r n d)
  (λc _ _=>∃m r t:Nat,c.t14=m/\m<=2^53/\(t:Int)=c.t10+1074/\t<=2045/\r<infR/\r=t*2^52+m/\rm r=m*2^t/\Rnd way r n d) ?_
 refine⟨λh0 => ?_,λh0 => ?_⟩
 . have hl:sn.len=0:=by have:(sn.len:Int)=0:=(by simpa using h0); omega
   have n0:n=0:=hn.len_zero.1 hl
   subst n0
   refine⟨0,rfl,λ_=>T05.zero d0,λ_=>IsUp.zero _,.inr (IsUp.zero _)⟩
 have hl:sn.len≠0:=by have:¬(sn.len:Int)=0:=(by simpa using h0); omega
 have n0:n≠0:=λe=>hl (hn.len_zero.2 e)
 refine(p0k hn (Nat.le_trans wn44 (by decide))).mono λv V1 l1 hv=>⟨_,hv,?_⟩
 refine(p0k (hd.le l1) (Nat.le_trans wd44 (by decide))).mono λv V2 l2 hv=>⟨_,hv,?_⟩
 have hn2:=hn.le (View.le_trans l1 l2)
 have hd2:=hd.le (View.le_trans l1 l2)
 have w0:i64.wrap ((bl n:Nat)-(bl d:Nat):Int)=(bl n:Int)-bl d:=i64w (by omega) (by omega)
 have w1:i64.wrap (0-((bl n:Int)-bl d))=(bl d:Int)-bl n:=by rw[i64w (by omega) (by omega)]; omega
 rw[w0,w1,H14,H14]
 obtain⟨A,hA⟩:∃A:Nat,(A:Int)=max 0 ((bl d:Int)-bl n):=⟨(max 0 ((bl d:Int)-bl n)).toNat,by omega⟩
 obtain⟨B,hB⟩:∃B:Nat,(B:Int)=max 0 ((bl n:Int)-bl d):=⟨(max 0 ((bl n:Int)-bl d)).toNat,by omega⟩
 rw[<-hA,<-hB]
 have hmag:=t0p (n:=n) (d:=d) (x:=bl n) (y:=bl d) (A:=A) (B:=B) (B0g n0) (s0i n) (B0g (by omega)) (s0i d) (b0k n0) (b0k (by omega)) (by omega)
 refine⟨?_,?_⟩
 . refine(C05 hn2 (Nat.le_trans wn44 (by decide)) (by omega)).mono λv V4 l4 ⟨s1,hv,hs1⟩=>⟨s1,hv,?_⟩
   refine(C05 (hd2.le l4) (Nat.le_trans wd44 (by decide)) (by omega)).mono λv V5 l5 ⟨s2,hv,hs2⟩=>⟨s2,hv,?_⟩
   have wb:wn (n*2^A)<=2^50:=p0d (by
    have a1:=x0i n (2^A)
    have a2:=H07 A
    omega)
   refine(L0c (hs1.le l5) hs2 wb).mono λv V6 l6 hv=>⟨_,hv,λhc => ?_,λhc => ?_⟩
   . simp only[decide_eq_true_eq]at hc
     have lt:n*2^A<d*2^B:=by
      rcases Nat.lt_or_ge (n*2^A) (d*2^B)with g|g
      . exact g
      . exfalso; rw[if_neg (by omega)]at hc; split at hc<;>omega
     have e:i64.wrap ((bl n:Int)-bl d-1)=(B:Int)-A-1:=by rw[i64w (by omega) (by omega)]; omega
     show Mag n d (i64.wrap _)/\_<=(i64.wrap _:Int)/\(i64.wrap _:Int)<=_
     rw[e]; exact⟨hmag.1 lt,by omega,by omega⟩
   . simp only[decide_eq_false_iff_not]at hc
     have ge:d*2^B<=n*2^A:=by
      rcases Nat.lt_or_ge (n*2^A) (d*2^B)with g|g
      . exfalso; rw[if_pos g]at hc; omega
      . exact g
     have e:(bl n:Int)-bl d=(B:Int)-A:=by omega
     show Mag n d ((bl n:Int)-bl d)/\_<=((bl n:Int)-bl d)/\((bl n:Int)-bl d)<=_
     rw[e]; exact⟨hmag.2 ge,by omega,by omega⟩
 rintro⟨e⟩ V3 l3 ⟨hM,he1,he2⟩
 have hM:Mag n d e:=hM
 have he1 : -(2^31:Int)<=e:=he1
 have he2:e<=(2^31:Int):=he2
 dsimp only
 refine⟨λhc => ?_,λhc => ?_⟩
 . simp only[decide_eq_true_eq]at hc
   have hov:=hM.over (by omega)
   have hrm:rm (infR-1)=(2^53-1)*2^2045:=J16 (r:=infR-1) (e:=2045) (by decide)
   refine⟨λhw=>⟨by omega,?_⟩,λhw => ?_⟩
   . have hw:way=0:=by simpa using hw
     have k1:u64.wrap (u64.wrap (1*2^(min (Int.toNat 53) (IntKind.bits .u64)))-1)=((2^53-1:Nat):Int):=by decide
     have k2:i64.wrap (i64.wrap (1023-53)+1)=971:=by decide
     rw[k1,k2]
     have k3:(971+1074:Int).toNat=2045:=by decide
     refine(j0p (n:=2^53-1) (r:=infR-1) (s:=971) (by omega) (by omega) (by omega) (by omega) (by decide) (by rw[k3]; exact hrm)).mono λv V7 _ hv=>⟨_,hv,_,rfl,?_⟩
     have hD:T05 (infR-1) n d:=⟨by decide,Nat.le_trans (Nat.mul_le_mul_right d (B0f.2 (by omega))) hov,.inl (by decide)⟩
     exact⟨λ_=>hD,λh=>by omega,.inl hD⟩
   . have hw:way≠0:=by simpa using hw
     refine g0p.mono λv V8 _ hv=>⟨_,hv,_,rfl,?_⟩
     have hU:IsUp infR n d:=⟨Nat.le_refl _,.inl rfl,.inr (Nat.lt_of_lt_of_le (Nat.mul_lt_mul_of_pos_right (b0m (by decide)) d0) hov)⟩
     exact⟨λh=>absurd h hw,λ_=>hU,.inr hU⟩
 . simp only[decide_eq_false_iff_not]at hc
   have k0:i64.wrap (i64.wrap (e-53)+1)=e-52:=by
    rw[i64w (n:=e-53) (by omega) (by omega),i64w (by omega) (by omega)]; omega
   obtain⟨L,hL⟩:∃L,L=max (e-52) (-1074):=⟨_,rfl⟩
   have kL:(if(-1074:Int)>e-52 then(-1074:Int)else e-52)=L:=by split<;>omega
   rw[k0,kL]
   have k1:i64.wrap (0-L) = -L:=by rw[i64w (by omega) (by omega)]; omega
   rw[k1]
   obtain⟨a,ha⟩:∃a:Nat,(a:Int)=max (-L) 0:=⟨(max (-L) 0).toNat,by omega⟩
   obtain⟨b,hb⟩:∃b:Nat,(b:Int)=max L 0:=⟨(max L 0).toNat,by omega⟩
   obtain⟨t,ht⟩:∃t:Nat,(t:Int)=L+1074:=⟨(L+1074).toNat,by omega⟩
   have kb:(if(0:Int)>L then(0:Int)else L)=(b:Int):=by split<;>omega
   have ka:(if(0:Int) > -L then(0:Int)else -L)=(a:Int):=by split<;>omega
   rw[kb,ka]
   have hquo:quo n d L=n*2^a / (d*2^b):=by
    unfold quo
    have e1:(max (-L) 0).toNat=a:=by omega
    have e2:(max L 0).toNat=b:=by omega
    rw[e1,e2]
   obtain⟨hq53,hq52,ht5,hr0,hdown,hup0,hup1,hr1⟩:=s0j d0 hM (by omega) hL ha hb rfl ht
   rw[<-hquo]at hq53 hq52 hr0 hdown hup0 hup1 hr1
   have bn:bl (n*2^a)<=2^31:=by
    have a1:=x0i n (2^a)
    have a2:=H07 a
    omega
   have bd:bl (d*2^b)<=2^31:=by
    have a1:=x0i d (2^b)
    have a2:=H07 b
    omega
   have hub:0<d*2^b:=Nat.mul_pos d0 (x07 b)
   refine(C05 (hd2.le l3) (Nat.le_trans wd44 (by decide)) (by omega)).mono λv V9 l9 ⟨u,hv,hu⟩=>⟨u,hv,?_⟩
   refine(C05 (hn2.le (View.le_trans l3 l9)) (Nat.le_trans wn44 (by decide)) (by omega)).mono λv V10 l10 ⟨s,hv,hs⟩=>⟨s,hv,?_⟩
   refine(g0a hs (hu.le l10) (p0d (by omega)) (by omega)).mono λv V11 l11 ⟨q,r,hv,hq,hr⟩=>⟨q,r,hv,⟨0,rfl,by omega,by simp[wval]⟩,?_⟩
   rw[<-hquo]at hq
   generalize hQ:quo n d L=Q at hq53 hq52 hr0 hdown hup0 hup1 hr1 hq
   have hql:q.len=(dig Q).length:=hq.len
   have hq2:q.len<=2:=by
    have:wn Q<=2:=p0d (by have:bl Q<=53:=j03 hq53; omega)
    simp only[wn]at this; omega
   rintro⟨y,i'⟩ V12 l12 ⟨i,hi,hil,hy⟩
   have hi:i'=(i:Int):=hi
   have hil:i<=q.len:=hil
   have hy:y=((wval ((dig Q).take i):Nat):Int):=hy
   subst hi; subst hy
   dsimp only
   have hwl:∀j,j<=q.len->wval ((dig Q).take j)<4294967296^j:=by
    intro j hj
    have:=n0h (l:=(dig Q).take j) (λd hd=>b05 Q d (List.mem_of_mem_take hd))
    rw[List.length_take,Nat.min_eq_left (by omega)]at this
    exact this
   refine⟨λhlt => ?_,λhge => ?_⟩
   . simp only[decide_eq_true_eq]at hlt
     have hi':i<q.len:=by omega
     have w32:i64.wrap (32*(i:Int))=((32*i:Nat):Int):=by rw[i64w (by omega) (by omega)]; omega
     rw[w32]
     refine⟨⟨by omega,by omega,hq.isSome (by omega)⟩,_,(hq.le l12).get (by omega) (by omega),by omega,?_⟩
     rw[Int.toNat_natCast,Int.toNat_natCast]
     have hg:=(b05 Q).getD i
     generalize hwd:(dig Q).getD i 0=w at hg
     have hyl:=hwl i (by omega)
     have hyl2:=hwl (i+1) (by omega)
     rw[k01,hwd]at hyl2
     generalize hyy:wval ((dig Q).take i)=y at hyl hyl2
     have e4:4294967296^i=2^(32*i):=by rw[show(4294967296:Nat)=2^32 from rfl,<-Nat.pow_mul]
     have hmin:min (32*i) u64.bits=32*i:=Nat.min_eq_left (by show 32*i<=64; omega)
     have hpow:(2:Int)^(32*i)=((2^(32*i):Nat):Int):=by rw[Int.natCast_pow]; rfl
     have hle:4294967296^(i+1)<=18446744073709551616:=by
      have:4294967296^(i+1)<=4294967296^2:=Nat.pow_le_pow_right (by omega) (by omega)
      omega
     have hor:=Nat.two_pow_add_eq_or_of_lt (i:=32*i) (b:=y) (by rw[<-e4]; exact hyl) w
     rw[<-e4]at hor
     have hval:u64.wrap (BitVec.toNat ((BitVec.ofInt u64.bits (y:Int)) ||| (BitVec.ofInt u64.bits (u64.wrap ((u64.wrap (w:Int))*2^(min (32*i) (IntKind.bits .u64)))))))=((y+w*4294967296^i:Nat):Int):=by
      have hw64:w*4294967296^i<2^64:=by omega
      rw[hmin,hpow,<-e4,d09 (y:=w) (by omega),<-Int.natCast_mul,d09 hw64,i0p (by omega) hw64]
      congr 1
      rw[Nat.or_comm,Nat.mul_comm w,<-hor]; omega
     rw[hval]
     refine⟨⟨i+1,?_,by show i+1<=q.len; omega,?_⟩,?_⟩
     . show i64.wrap ((i:Int)+1)=((i+1:Nat):Int)
       rw[i64w (by omega) (by omega)]; omega
     . show((y+w*4294967296^i:Nat):Int)=((wval ((dig Q).take (i+1)):Nat):Int)
       rw[k01,hwd,hyy]
     . show((q.len:Int)-i64.wrap ((i:Int)+1)).toNat<((q.len:Int)-(i:Int)).toNat
       rw[i64w (by omega) (by omega)]; omega
   . simp only[decide_eq_false_iff_not]at hge
     have hiq:wval ((dig Q).take i)=Q:=by rw[z01 (by omega),F01]
     rw[hiq]
     have hr12:=hr.le l12
     have hrb:n*2^a%(d*2^b)<d*2^b:=Nat.mod_lt _ hub
     have hwr:wn (n*2^a%(d*2^b))<=2^43:=Nat.le_trans (T0b (Nat.le_of_lt hrb)) (p0d (by omega))
     refine(C05 (n:=1) hr12 (Nat.le_trans hwr (by decide)) (by omega)).mono λv V13 l13 ⟨s2,hv,hs2⟩=>⟨s2,hv,?_⟩
     have hw2:wn (n*2^a%(d*2^b)*2^1)<=2^50:=by
      have:=W0d (n*2^a%(d*2^b)) (2^1)
      have:wn (2^1)<=2^43:=wn64 (by omega)
      omega
     refine(L0c hs2 (hu.le (View.le_trans l10 (View.le_trans l11 (View.le_trans l12 l13)))) hw2).mono λv V14 l14 hv=>⟨_,hv,?_⟩
     have hrz:r.len=0↔n*2^a%(d*2^b)=0:=hr.len_zero
     have qs:Rnd way (t*2^52+Q) n d->(∃m r t':Nat,(Q:Int)=m/\m<=2^53/\(t':Int)=L+1074/\t'<=2045/\r=t'*2^52+m/\rm r=m*2^t'/\Rnd way r n d) :=
      λh=>⟨Q,_,t,rfl,by omega,ht,ht5,rfl,hr0,h⟩
     have ps:Rnd way (t*2^52+Q+1) n d->(∃m r t':Nat,u64.wrap ((Q:Int)+1)=m/\m<=2^53/\(t':Int)=L+1074/\t'<=2045/\r=t'*2^52+m/\rm r=m*2^t'/\Rnd way r n d) :=
      λh=>⟨Q+1,t*2^52+Q+1,t,by rw[u64w (by omega) (by omega)]; omega,by omega,ht,ht5,by omega,hr1,h⟩
     have notup:way≠1->Rnd way (t*2^52+Q) n d:=λh=>⟨λ_=>hdown,λe=>absurd e h,.inl hdown⟩
     have near:way≠1->way≠0->Rnd way (t*2^52+Q+1) n d\/n*2^a%(d*2^b)=0:=by
      intro h h'
      by_cases z:n*2^a%(d*2^b)=0
      . exact .inr z
      . exact .inl ⟨λe=>absurd e h',λe=>absurd e h,.inr (hup1 z)⟩
     refine⟨⟨λhw => ?_,λhw => ?_⟩,?_⟩
     . have hw:way=1:=by simpa using hw
       refine⟨λhz => ?_,λhz => ?_⟩
       . simp only[decide_eq_true_eq]at hz
         have z:n*2^a%(d*2^b)≠0:=λz=>by have:=hrz.2 z; rw[this]at hz; simp at hz
         exact ps ⟨λh=>absurd (h.symm.trans hw:(0:Int)=1) (by decide),λ_=>hup1 z,.inr (hup1 z)⟩
       . simp only[decide_eq_false_iff_not]at hz
         have z0:r.len=0:=by generalize r.len=k at hz; omega
         have z:=hrz.1 z0
         have g:=qs ⟨λh=>absurd (h.symm.trans hw:(0:Int)=1) (by decide),λ_=>hup0 z,.inl hdown⟩
         refine⟨λh => ?_,λ_=>g⟩
         have h:way=2:=by simpa using h
         exact absurd (h.symm.trans hw:(2:Int)=1) (by decide)
     . have hw:way≠1:=by simpa using hw
       have g:=qs (notup hw)
       refine⟨λh2 => ?_,λ_=>g⟩
       have h2:way=2:=by simpa using h2
       have h20:way≠0:=λe=>absurd (h2.symm.trans e:(2:Int)=0) (by decide)
       have pz:n*2^a%(d*2^b)≠0->(∃m r t':Nat,u64.wrap ((Q:Int)+1)=m/\m<=2^53/\(t':Int)=L+1074/\t'<=2045/\r=t'*2^52+m/\rm r=m*2^t'/\Rnd way r n d) :=
        λz=>ps ⟨λe=>absurd e h20,λe=>absurd e hw,.inr (hup1 z)⟩
       have cmpz:n*2^a%(d*2^b)=0->(if n*2^a%(d*2^b)*2^1<d*2^b then(-1:Int)else if n*2^a%(d*2^b)*2^1=d*2^b then 0 else 1) = -1:=by
        intro z; rw[z,Nat.zero_mul,if_pos hub]
       refine⟨λh3=>pz λz => ?_,λh3=>⟨λh4=>⟨λh5=>pz λz => ?_,λ_=>g⟩,λ_=>g⟩⟩
       . rw[cmpz z]at h3; simp at h3
       . rw[cmpz z]at h4; simp at h4
     rintro⟨x⟩ V15 l15 ⟨m,r,t',hx,hm,ht',ht5',hr',hrm',hR⟩
     have hx:x=(m:Int):=hx
     subst hx
     dsimp only at ht' ⊢
     have htt:t'=t:=by have e:=ht'.trans ht.symm; exact Int.ofNat.inj e
     subst htt
     have k53:u64.wrap (1*2^(min (Int.toNat 53) (IntKind.bits .u64)))=((2^53:Nat):Int):=by decide
     have k971:i64.wrap (i64.wrap (1023-53)+1)=971:=by decide
     rw[k53,k971]
     refine⟨⟨by omega,λh1=>⟨λh2 => ?_,λh2 => ?_⟩,λh1 => ?_⟩,?_⟩
     . have h1:m=2^53:=Int.ofNat.inj (by simpa using h1)
       have h2:L=971:=by simpa using h2
       have hri:r=infR:=by
        rw[hr',h1]
        have:t'=2045:=by rw[h2]at ht'; exact Int.ofNat.inj ht'
        rw[this]; decide
       refine g0p.mono λv V17 _ hv=>⟨_,hv,r,by rw[hri],hR⟩
     . have h1:m=2^53:=Int.ofNat.inj (by simpa using h1)
       have h2:L≠971:=by simpa using h2
       refine⟨m,r,t',rfl,hm,ht',ht5',?_,hr',hrm',hR⟩
       rw[hr',h1]
       exact K15 ht5' (M13 ht' h2)
     . have h1:m≠2^53:=λe=>by rw[e]at h1; simp at h1
       refine⟨m,r,t',rfl,hm,ht',ht5',?_,hr',hrm',hR⟩
       rw[hr']
       exact L15 ht5' hm h1
     rintro _ V16 l16 ⟨m',r',t2,hm1,hm2,ht2,ht3,hri,hre,hrm2,hR2⟩
     have hm1:(m:Int)=m':=hm1
     have hmm:m=m':=Int.ofNat.inj hm1
     subst hmm
     have ht2:(t2:Int)=L+1074:=ht2
     by_cases m0:m=0
     . subst m0
       have r0:r'=0:=G16 (by rw[hrm2,Nat.zero_mul,q0j])
       refine N0y.mono λv V18 _ hv=>⟨_,hv,r',by rw[r0],hR2⟩
     . refine(j0p (n:=m) (s:=L) (r:=r') m0 hm2 (x0w ht2 ht3).1 (x0w ht2 ht3).2 hri ?_).mono λv V18 _ hv=>⟨_,hv,r',rfl,hR2⟩
       . rw[<-ht2,Int.toNat_natCast]; exact hrm2
theorem w0m(r:Nat):q03 (r:Int)=r:=by unfold q03; rw[if_neg (by omega)]; omega
theorem u0t{r:Nat}(h:0<r):q03 (-(r:Int))=2^63+r:=by unfold q03; rw[if_pos (by omega)]; omega
theorem P0y{V:View}{sn sd:Sl}{n d:Nat}{w:Int}{R:Nat->Prop}(_:n≠0)(_:0<d)
 (h:a00 prog s0f #[(y0d.mk 53 (-1074) 1023).val,sn.v,sd.v,.int .i64 w] V λv _=>∃r:Nat,v = .float .f64 r/\(T05 r n d\/IsUp r n d)/\R r) {Q:Value->View->Prop}
 (k:∀r V',R r->r<=infR->(0<r->Q (.float .f64 (2^63+r)) V')/\(r=0->Q (.float .f64 0) V')) :
 a00 prog s0f #[(y0d.mk 53 (-1074) 1023).val,sn.v,sd.v,.int .i64 w] V λv V2=>∃r2:Nat,v = .float .f64 r2 /\
  ((FloatKind.f64.format.order r2 0 != some .eq)=true->Q (.float .f64 (Op.negFloat .f64 r2)) V2)/\((FloatKind.f64.format.order r2 0 != some .eq)=false->Q (.float .f64 0) V2):=by
 refine h.mono λv V2 _ ⟨r,hv,hd,hR⟩=>⟨r,hv,?_⟩
 have hr:r<=infR:=by
  rcases hd with h|h
  . exact Nat.le_of_lt h.lt
  . exact h.le
 have hr63:r<2^63:=by unfold infR at hr; omega
 have hok:okW r:=⟨by omega,by rw[Nat.mod_eq_of_lt hr63]; exact hr⟩
 have hkey:key r=(r:Int):=q0m hr63
 have k0:key 0=0:=by decide
 have e:(FloatKind.f64.format.order r 0 != some .eq) = !decide ((r:Int)=0):=by
  show(!(FloatKind.f64.format.order r 0==some .eq))=_
  rw[e0m hok (by decide),hkey,k0]
 rw[e]
 obtain⟨k1,k2⟩:=k r V2 hR hr
 refine⟨λh1 => ?_,λh1 => ?_⟩
 . have h1:r≠0:=λc=>by subst c; simp at h1
   rw[Z0a (by omega),if_pos hr63,Nat.add_comm]
   exact k1 (by omega)
 . have h1:r=0:=by
     by_cases c:r=0
     . exact c
     . rw[decide_eq_false (by omega)]at h1; simp at h1
   exact k2 h1
theorem x0m{V:View}{x:WhV}{s:Sl}{A:Int}{D:Nat}{way:Int}(hw:way=0\/way=1)(hx:k03 V x A)(hs:L00 V s D)(D0:0<D)(zA:bl A.natAbs<=2^30)(zD:bl D<=2^30) :
 a00 prog J0p #[(y0d.mk 53 (-1074) 1023).val,x.val,s.v,.int .i64 way] V λv _ =>
  v = .float .f64 (q03 (if 0<=A then(if way=0 then(A0c A.natAbs D:Int)else(upK A.natAbs D:Int))else(if way=0 then -(upK A.natAbs D:Int)else -(A0c A.natAbs D:Int)))):=by
 refine M0n (y0d.mk 53 (-1074) 1023) x s way V _ ⟨λh => ?_,λh => ?_⟩
 . have hA:0<=A:=by rw[hx.1]at h; simpa using h
   refine(n0p way hx.2 hs D0 zA zD).mono λv V1 _ ⟨r,hv,hR⟩=>⟨r,hv,?_⟩
   rw[if_pos hA]
   rcases hw with rfl|rfl
   . rw[if_pos rfl,(hR.down rfl).unique D0 (X05 D0),w0m]
   . rw[if_neg (by decide),(hR.up rfl).unique D0 (G07 D0),w0m]
 . have hA:A<0:=by rw[hx.1]at h; simpa using h
   have n0:A.natAbs≠0:=by omega
   have hnA:¬0<=A:=by omega
   refine⟨λ_ => ?_,λh2 => ?_⟩
   . have hw2:i64.wrap (1-way)=1-way:=i64w (by omega) (by omega)
     rw[hw2,if_neg hnA]
     refine P0y (Q:=λv _=>v = .float .f64 (q03 (if way=0 then -(upK A.natAbs D:Int)else -(A0c A.natAbs D:Int)))) (R:=λr=>Rnd (1-way) r A.natAbs D) n0 D0 ((n0p (1-way) hx.2 hs D0 zA zD).mono λv V1 _ ⟨r,hv,hR⟩=>⟨r,hv,hR.any,hR⟩) λr V' hR hr => ?_
     have hrv:(r:Int)=if way=0 then(upK A.natAbs D:Int)else(A0c A.natAbs D:Int):=by
      rcases hw with rfl|rfl
      . rw[if_pos rfl,(hR.up (by decide)).unique D0 (G07 D0)]
      . rw[if_neg (by decide),(hR.down (by decide)).unique D0 (X05 D0)]
     have e:(if way=0 then -(upK A.natAbs D:Int)else -(A0c A.natAbs D:Int)) = -(r:Int):=by
      rw[hrv]; split<;>rfl
     rw[e]
     refine⟨λh0 => ?_,λh0 => ?_⟩
     . rw[u0t h0]
     . rw[h0]; rfl
   . exfalso
     have h2:way=2:=by simpa using h2
     omega
theorem y0w(z:Cq):z.re.num*(z.D:Int)=z.A*(z.re.den:Int):=by
 have h:=z.canon.rep
 have h1:((z.re.num:Int):Rat) / ((z.re.den:Nat):Rat)=(z.A:Rat) / (z.D:Rat):=by
  rw[<-h.re,<-Rat.mkRat_eq_div]; exact Rat.mkRat_self z.re
 exact(L03 z.re.den_nz h.pos).1 h1
theorem L0f(z:Cq):0<=z.A↔0<=z.re.num:=by
 have h:=y0w z
 have h1:(0:Int)<(z.D:Int):=by have:=z.canon.rep.pos; omega
 have h2:(0:Int)<(z.re.den:Int):=by have:=z.re.den_nz; omega
 constructor
 . intro g
   refine Int.not_lt.1 λc => ?_
   have a:=Int.mul_neg_of_neg_of_pos c h1
   have b:=Int.mul_nonneg g (Int.le_of_lt h2)
   omega
 . intro g
   refine Int.not_lt.1 λc => ?_
   have a:=Int.mul_neg_of_neg_of_pos c h2
   have b:=Int.mul_nonneg g (Int.le_of_lt h1)
   omega
theorem I14(z:Cq):z.A.natAbs*z.re.den=z.re.num.natAbs*z.D:=by
 have h:=congrArg Int.natAbs (y0w z)
 rw[Int.natAbs_mul,Int.natAbs_mul,Int.natAbs_natCast,Int.natAbs_natCast]at h
 exact h.symm
theorem j0r(z:Cq):A0c z.A.natAbs z.D=A0c z.re.num.natAbs z.re.den:=by
 have d1:0<z.D:=by have:=z.canon.rep.pos; omega
 have d2:0<z.re.den:=by have:=z.re.den_nz; omega
 exact((X05 d1).congr d1 d2 (I14 z)).unique d2 (X05 d2)
theorem N13(z:Cq):upK z.A.natAbs z.D=upK z.re.num.natAbs z.re.den:=by
 have d1:0<z.D:=by have:=z.canon.rep.pos; omega
 have d2:0<z.re.den:=by have:=z.re.den_nz; omega
 exact((G07 d1).congr d1 d2 (I14 z)).unique d2 (G07 d2)
theorem y0m{V:View}:a00 prog d0s #[] V λv _=>v=(y0d.mk 53 (-1074) 1023).val:=w0q V _ rfl
theorem Q0y{V:View}{x:NumV}{z:Cq}(hx:K05 V x z)(hz:z.sz<=2^30):a00 prog n0u #[x.val] V λv _=>v = .float .f64 (q03 (Z08 z.re)):=by
 have zA:=z.szA; have zD:=z.szD
 refine y0s x V _ (y0m.mono λv V1 l1 hv=>⟨_,hv,(B03 (hx.le l1)).mono λv V2 l2 ⟨s,hv,hs⟩=>⟨s,hv,?_⟩⟩)
 refine(x0m (way:=0) (.inl rfl) ((hx.le (View.le_trans l1 l2)).re) hs (by have:=z.canon.rep.pos; omega) (by omega) (by omega)).mono λv V3 _ hv=>⟨_,hv,?_⟩
 unfold Z08
 rw[j0r z,N13 z]
 by_cases c:0<=z.A
 . rw[if_pos c,if_pos ((L0f z).1 c),if_pos rfl]
 . rw[if_neg c,if_neg (λg=>c ((L0f z).2 g)),if_pos rfl]
theorem o0p{V:View}{x:NumV}{z:Cq}(hx:K05 V x z)(hz:z.sz<=2^30):a00 prog o0u #[x.val] V λv _=>v = .float .f64 (q03 (f0a z.re)):=by
 have zA:=z.szA; have zD:=z.szD
 refine z0s x V _ (y0m.mono λv V1 l1 hv=>⟨_,hv,(B03 (hx.le l1)).mono λv V2 l2 ⟨s,hv,hs⟩=>⟨s,hv,?_⟩⟩)
 refine(x0m (way:=1) (.inr rfl) ((hx.le (View.le_trans l1 l2)).re) hs (by have:=z.canon.rep.pos; omega) (by omega) (by omega)).mono λv V3 _ hv=>⟨_,hv,?_⟩
 unfold f0a
 rw[j0r z,N13 z]
 by_cases c:0<=z.A
 . rw[if_pos c,if_pos ((L0f z).1 c),if_neg (by decide)]
 . rw[if_neg c,if_neg (λg=>c ((L0f z).2 g)),if_neg (by decide)]
theorem b0e{V:View}{s:Sl}{a:Nat}(hs:L00 V s a):a00 prog Y0h #[s.v,.int .i64 0] V λv _=>v = .int .u32 ((a%2:Nat):Int):=by
 have hl:=hs.len_zero
 have k0:i64.wrap (Int.tdiv 0 32)=0:=by decide
 have k1:u64.wrap (Int.tmod 0 32)=0:=by decide
 refine I0n s 0 V _ ⟨λh=>absurd h (by decide),λ_=>⟨λh => ?_,λh => ?_⟩⟩
 . rw[k0]at h
   have h : s.len = 0 := by have : (0 : Int) ≥ (s.len : Int) := by simpa using h
                            omega
   rw[hl.1 h]; rfl
 . rw[k0]at h ⊢
   have h : 0 < s.len := by have : ¬ (0 : Int) ≥ (s.len : Int) := by simpa using h
                            omega
   refine⟨⟨by omega,by omega,hs.isSome h⟩,_,hs.get (by omega) (by omega),by rw[k1]; omega,?_⟩
   rw[k1]
   have e0:(min (Int.toNat 0) u32.bits)=0:=by decide
   rw[e0]
   have g:=(b05 a).getD 0
   have e1:(dig a).getD 0 0=a%4294967296:=by rw[q0i]; simp
   have e2:Int.fdiv (((dig a).getD (Int.toNat 0) 0:Nat):Int) (2^0)=((a%4294967296:Nat):Int):=by
    rw[show(Int.toNat 0)=0 from rfl,e1,Int.fdiv_eq_ediv_of_nonneg _ (by omega)]; simp
   rw[e2]
   have e3:BitVec.toNat ((BitVec.ofInt u32.bits ((a%4294967296:Nat):Int)) &&& (BitVec.ofInt u32.bits 1))=a%4294967296%2:=by
    rw[BitVec.toNat_and]
    have a1:(BitVec.ofInt u32.bits ((a%4294967296:Nat):Int)).toNat=a%4294967296:=of32 (Nat.mod_lt _ (by decide))
    have a2:(BitVec.ofInt u32.bits 1).toNat=1:=by decide
    rw[a1,a2]; exact Nat.and_one_is_mod _
   rw[e3]
   have e4:a%4294967296%2=a%2:=by omega
   rw[e4,u32w (by omega) (by omega)]
theorem z0m{V:View}{sa sd:Sl}{a d K:Nat}(hK:K=1074)(ha:L00 V sa a)(hd:L00 V sd d)(a0:a≠0)(d0:0<d)(za:bl a<=2^30)(zd:bl d<=2^30) :
 a00 prog e0s #[sa.v,sd.v,.int .i64 53,.int .i64 (-1074)] V λv V'=>∃(r:Sl) (T m l:Nat) (b:Bool),v = .tuple #[r.v,.int .i64 ((T:Int)-1074),.int .u32 (l:Int),.bool b] /\
  L00 V' r m/\m<2^53/\T<=2^33/\Spl a d K T m (b=true\/l=1):=by
 have wa:wn a<=2^43:=p0d (by omega)
 have wd:wn d<=2^43:=p0d (by omega)
 have ba:=b0k a0
 refine i0q sa sd 53 (-1074) V _ (λ_ x _=>x.t9=max ((bl a:Int)-bl d-54) (-1075))
  (λc x V=>c.t9=max ((bl a:Int)-bl d-54) (-1075)/\∃q r:Nat,L00 V x.t13 q/\L00 V x.t14 r/\(0<=c.t9->q=a / (d*2^c.t9.toNat)/\r=a%(d*2^c.t9.toNat))/\(c.t9<0->q=a*2^(-c.t9).toNat / d/\r=a*2^(-c.t9).toNat%d))
  (λ_ x V=>∃T q l:Nat,x.t9=(T:Int)-1074/\x.t10=(l:Int)/\L00 V x.t13 q/\T+bl q<=2^33/\Spl a d K T q (x.t11=true\/l=1))
  (λ_ x V=>bl (W0l V x.t13)) ?_
 refine(Z03 ha (Nat.le_trans wa (by decide))).mono λv V1 l1 hv=>⟨_,hv,(Z03 (hd.le l1) (Nat.le_trans wd (by decide))).mono λv V2 l2 hv=>⟨_,hv,?_⟩⟩
 have w0:i64.wrap ((-1074:Int)-1) = -1075:=by decide
 have w1:i64.wrap (i64.wrap (i64.wrap ((bl a:Nat)-(bl d:Nat):Int)-53)-1)=(bl a:Int)-bl d-54:=by
  rw[i64w (n:=(bl a:Int)-bl d) (by omega) (by omega),i64w (n:=(bl a:Int)-bl d-53) (by omega) (by omega),i64w (by omega) (by omega)]; omega
 rw[w0,w1]
 refine⟨⟨λhc => ?_,λhc => ?_⟩,?_⟩
 . have hc:(bl a:Int)-bl d-54 < -1075:=by simpa using hc
   show(-1075:Int)=_; omega
 . have hc:¬(bl a:Int)-bl d-54 < -1075:=by simpa using hc
   show(bl a:Int)-bl d-54=_; omega
 rintro⟨e⟩ V3 l3 he
 have he:e=max ((bl a:Int)-bl d-54) (-1075):=he
 have L3:=View.le_trans l1 (View.le_trans l2 l3)
 dsimp only
 refine⟨⟨λhc => ?_,λhc => ?_⟩,?_⟩
 . have hc:e>=0:=by simpa using hc
   obtain⟨E,rfl⟩:∃E:Nat,e=(E:Int):=⟨e.toNat,by omega⟩
   refine(Z05 (hd.le L3) (Nat.le_trans wd (by decide)) (by omega)).mono λv V5 l5 ⟨s,hv,hs⟩=>⟨s,hv,?_⟩
   refine(a06 (ha.le (View.le_trans L3 l5)) hs wa (Nat.pos_iff_ne_zero.1 (Nat.mul_pos d0 (x07 E)))).mono λv V6 l6 ⟨q,r,hv,hq,hr⟩=>⟨q,r,hv,he,_,_,hq,hr,λ_ => ?_,λh => ?_⟩
   . rw[Int.toNat_natCast]; exact⟨rfl,rfl⟩
   . have h:(E:Int)<0:=h
     omega
 . have hc:¬e>=0:=by simpa using hc
   have w2:i64.wrap (0-e)=((-e).toNat:Int):=by rw[i64w (by omega) (by omega)]; omega
   rw[w2]
   refine(Z05 (ha.le L3) (Nat.le_trans wa (by decide)) (by omega)).mono λv V5 l5 ⟨s,hv,hs⟩=>⟨s,hv,?_⟩
   have b1:=x0i a (2^(-e).toNat)
   have b2:=H07 (-e).toNat
   refine(a06 hs (hd.le (View.le_trans L3 l5)) (p0d (by omega)) (by omega)).mono λv V6 l6 ⟨q,r,hv,hq,hr⟩=>⟨q,r,hv,he,_,_,hq,hr,λh => ?_,λ_=>⟨rfl,rfl⟩⟩
   have h:0<=e:=h
   omega
 rintro⟨q',r'⟩ V4 l4 ⟨_,q,r,hq,hr,h1,h2⟩
 dsimp only at hq hr h1 h2 ⊢
 have bq:bl q<=2^31:=by
  by_cases hc:0<=e
  . have:=p0h (Nat.div_le_self a (d*2^e.toNat))
    rw[<-(h1 hc).1]at this; omega
  . have b1:=x0i a (2^(-e).toNat)
    have b2:=H07 (-e).toNat
    have:=p0h (Nat.div_le_self (a*2^(-e).toNat) d)
    rw[<-(h2 (by omega)).1]at this; omega
 have wq:wn q<=2^44:=p0d (by omega)
 refine(b0e hq).mono λv V9 l9 hv=>⟨_,hv,?_⟩
 refine(j08 (n:=1) (hq.le l9) wq (by omega)).mono λv V10 l10 ⟨s10,hv,hs10⟩=>⟨s10,hv,?_⟩
 rw[Nat.pow_one]at hs10
 have bq2:bl (q / 2)<=bl q:=p0h (Nat.div_le_self _ _)
 have hr0:=hr.len_zero
 have hrest:(r≠0\/q%2=1)↔(decide (((r'.len:Int):Int)>0)=true\/q%2=1):=by
  rw[decide_eq_true_iff]
  have:r≠0↔(r'.len:Int)>0:=by rw[Ne,<-hr0]; omega
  rw[this]
 refine⟨?_,?_⟩
 . have hT:i64.wrap (e+1)=((e+1075).toNat:Int)-1074:=by rw[i64w (by omega) (by omega)]; omega
   refine⟨(e+1075).toNat,q / 2,q%2,hT,rfl,hs10,by omega,?_⟩
   by_cases hc:0<=e
   . obtain⟨E,rfl⟩:∃E:Nat,e=(E:Int):=⟨e.toNat,by omega⟩
     obtain⟨e1,e2⟩:=h1 hc
     rw[Int.toNat_natCast]at e1 e2
     have eT:((E:Int)+1075).toNat=E+1+K:=by omega
     rw[eT]
     exact(M0t d0 e1 e2 (Y10 d0 (B0g a0) (s0i d) ba (by omega))).congr hrest
   . obtain⟨E,hE⟩:∃E:Nat,(-e).toNat=E+1:=⟨(-e).toNat-1,by omega⟩
     obtain⟨e1,e2⟩:=h2 (by omega)
     rw[hE]at e1 e2
     refine(c0o (K:=K) d0 (by omega) e1 e2 ?_).congr hrest
     by_cases z:e = -1075
     . exact .inl (by omega)
     . exact .inr (Y10 d0 (B0g a0) (s0i d) ba (by omega))
 rintro⟨e2,x10,x11,q2'⟩ V11 l11 ⟨T,q2,l,hT,hl,hq2,hb2,hS⟩
 dsimp only at hT hl hq2 hS ⊢
 subst hT; subst hl
 have wq2:wn q2<=2^44:=p0d (by omega)
 refine(Z03 hq2 (Nat.le_trans wq2 (by decide))).mono λv V12 l12 hv=>⟨_,hv,λhc => ?_,λhc => ?_⟩
 · have hc : 53 < bl q2 := by have : ((bl q2 : Nat) : Int) > 53 := by simpa using hc
                              omega
   have q53:2^53<=q2:=by
    refine Nat.le_of_not_lt λg => ?_
    have:=j03 g
    omega
   have hh:=w11 (x:=q2) (by omega)
   have wT:i64.wrap ((T:Int)-1074+1)=((T+1:Nat):Int)-1074:=by rw[i64w (by omega) (by omega)]; omega
   have hst:=hS.step d0 q53
   have fin:∀(y:Bool),((x11=true\/l=1)↔y=true)->a00 prog Y0h #[q2'.v,.int .i64 0] V12 λv V13=>∃r12:Int,v = .int .u32 r12/\a00 prog q0e #[q2'.v,.int .i64 1] V13 λv V14=>∃r13:Sl,v=r13.v /\
    ((∃T' q l':Nat,i64.wrap ((T:Int)-1074+1)=(T':Int)-1074/\r12=(l':Int)/\L00 V14 r13 q/\T'+bl q<=2^33/\Spl a d K T' q (y=true\/l'=1))/\bl (W0l V14 r13)<bl (W0l V11 q2')):=by
    intro y hy
    refine(b0e (hq2.le l12)).mono λv V13 l13 hv=>⟨_,hv,(j08 (n:=1) (hq2.le (View.le_trans l12 l13)) wq2 (by omega)).mono λv V14 l14 ⟨s14,hv,hs14⟩=>⟨s14,hv,?_⟩⟩
    rw[Nat.pow_one]at hs14
    refine⟨⟨T+1,q2 / 2,q2%2,wT,rfl,hs14,by omega,hst.congr (by rw[hy])⟩,?_⟩
    rw[X0d hs14,X0d hq2]; omega
   refine⟨λh11 => ?_,λh11 => ?_⟩
   . exact fin true (by simp[h11])
   . exact fin ((l:Int)==1) (by rw[h11]; simp; omega)
 · have hc : ¬ 53 < bl q2 := by have : ¬ ((bl q2 : Nat) : Int) > 53 := by simpa using hc
                                omega
   exact⟨_,T,q2,l,x11,rfl,hq2.le l12,w0i (by omega),by omega,hS⟩
theorem Z0n(l:List Nat){i:Nat}(h:i<l.length):wval (l.drop i)=l.getD i 0+4294967296*wval (l.drop (i+1)):=by
 rw[List.drop_eq_getElem_cons h]
 simp[wval,List.getD,h]
theorem f17{y w:Nat}(hy:y<2^32)(hw:w<4294967296) :
 u64.wrap (BitVec.toNat ((BitVec.ofInt u64.bits (u64.wrap ((y:Int)*2^(min (Int.toNat 32) u64.bits)))) ||| (BitVec.ofInt u64.bits (u64.wrap (w:Int)))))=((w+4294967296*y:Nat):Int):=by
 have e0:(2:Int)^(min (Int.toNat 32) u64.bits)=((4294967296:Nat):Int):=by decide
 rw[e0,<-Int.natCast_mul,d09 (y:=y*4294967296) (by omega),d09 (y:=w) (by omega),i0p (by omega) (by omega)]
 have h:=Nat.two_pow_add_eq_or_of_lt (i:=32) (b:=w) (by omega) y
 have e:y*4294967296 ||| w=2^32*y+w:=by rw[h,Nat.mul_comm y]
 rw[e]; omega
theorem M15{k f:Nat}(hf:f<2^52):k*2^52 ||| f=k*2^52+f:=by
 have h:=Nat.two_pow_add_eq_or_of_lt (i:=52) (b:=f) hf k
 rw[Nat.mul_comm k,h]
theorem g09{V:View}{s:Sl}{m T:Nat}(hs:L00 V s m)(hm:m<2^53)(hb:T=0\/2^52<=m)(hT:T<=2045) :
 a00 prog t0f #[s.v,.int .i64 ((T:Int)-1074)] V λv _=>v = .float .f64 (T*2^52+m):=by
 have hlen:=hs.len
 have hl2:s.len<=2:=by
  have:wn m<=2:=p0d (by have:bl m<=53:=j03 hm; omega)
  simp only[wn]at this; omega
 have hl0:=hs.len_zero
 refine j0q s ((T:Int)-1074) V _ (λ_ x _=>∃k y:Nat,x.t6=(k:Int)-1/\k<=s.len/\x.t5=(y:Int)/\y=wval ((dig m).drop k)) (λ_ x _=>(x.t6+1).toNat)
  (λ_ x _=>x.t1=(T:Int)-1074/\x.t5=(m:Int)) (λ_ _ _=>0) ⟨λh => ?_,λh=>⟨⟨s.len,0,?_,Nat.le_refl _,rfl,?_⟩,?_⟩⟩
 · have h : s.len = 0 := by have : (s.len : Int) = 0 := by simpa using h
                            omega
   have m0:=hl0.1 h
   have t0:T=0:=by omega
   rw[m0,t0]
 . show i64.wrap ((s.len:Int)-1)=_
   rw[i64w (by omega) (by omega)]
 . rw[hlen,List.drop_length]; rfl
 rintro⟨y',i'⟩ V1 l1 ⟨k,y,h1,h2,h3,h4⟩
 dsimp only at h1 h3 ⊢
 subst h1; subst h3
 refine⟨λhc => ?_,λhc => ?_⟩
 · have hc : 1 ≤ k := by have : (k : Int) - 1 ≥ 0 := by simpa using hc
                         omega
   refine⟨⟨by omega,by omega,hs.isSome (by omega)⟩,_,(hs.le l1).get (by omega) (by omega),?_,?_⟩
   . have ek:((k:Int)-1).toNat=k-1:=by omega
     rw[ek]
     have hw:=(b05 m).getD (k-1)
     have hd:=Z0n (dig m) (i:=k-1) (by omega)
     have ek2:k-1+1=k:=by omega
     rw[ek2,<-h4]at hd
     have hy:y<2^32:=by
      rw[h4]
      have:=n0h (l:=(dig m).drop k) (λd hd=>b05 m d (List.mem_of_mem_drop hd))
      rw[List.length_drop]at this
      have hk2:(dig m).length-k<=1:=by omega
      have:=Nat.lt_of_lt_of_le this (Nat.pow_le_pow_right (by omega) hk2)
      omega
     refine⟨k-1,(dig m).getD (k-1) 0+4294967296*y,?_,by omega,f17 hy hw,hd.symm⟩
     show i64.wrap ((k:Int)-1-1)=_
     rw[i64w (by omega) (by omega)]; omega
   . show(i64.wrap ((k:Int)-1-1)+1).toNat<((k:Int)-1+1).toNat
     rw[i64w (by omega) (by omega)]; omega
 · have hc : k = 0 := by have : ¬ (k : Int) - 1 ≥ 0 := by simpa using hc
                         omega
   subst hc
   rw[List.drop_zero,F01]at h4
   subst h4
   refine⟨⟨rfl,rfl⟩,?_⟩
   rintro⟨t',x'⟩ V2 l2 ⟨ht,hx⟩
   dsimp only at ht hx ⊢
   subst ht; subst hx
   have lt:2^52<=y->∀ {V:View},((decide ((i64.wrap ((T:Int)-1074+1075):Int)>2046))=true->a00 prog I0d #[.int .i64 1] V λv _=>∃r1:Nat,v = .float .f64 r1/\Value.float .f64 r1 = .float .f64 (T*2^52+y)) /\
    ((decide ((i64.wrap ((T:Int)-1074+1075):Int)>2046))=false->∃e2:Nat,N07 prog N06 #[.int .u64 (u64.wrap (BitVec.toNat ((BitVec.ofInt u64.bits (u64.wrap ((u64.wrap (i64.wrap ((T:Int)-1074+1075)))*2^(min (Int.toNat 52) (u64.bits))))) ||| (BitVec.ofInt u64.bits (u64.wrap (BitVec.toNat ((BitVec.ofInt u64.bits (y:Int)) &&& (BitVec.ofInt u64.bits 4503599627370495))))))))] (.float .f64 e2)/\Value.float .f64 e2 = .float .f64 (T*2^52+y)):=by
    intro h52 V
    have w0:i64.wrap ((T:Int)-1074+1075)=((T+1:Nat):Int):=by rw[i64w (by omega) (by omega)]; omega
    rw[w0]
    refine⟨λh => ?_,λ_=>⟨_,?_,rfl⟩⟩
    . exfalso
      have:((T+1:Nat):Int)>2046:=by simpa using h
      omega
    . have e1:=t0g (x:=y) (m:=4503599627370495) (by omega) (by omega)
      have e2:y &&& 4503599627370495=y%2^52:=Nat.and_two_pow_sub_one_eq_mod y 52
      rw[e2]at e1
      rw[show(((4503599627370495:Nat)):Int)=4503599627370495 from rfl]at e1
      have e3:(2:Int)^(min (Int.toNat 52) u64.bits)=((2^52:Nat):Int):=by decide
      rw[e1,d09 (y:=T+1) (by omega),e3,<-Int.natCast_mul,d09 (y:=(T+1)*2^52) (by omega),i0p (by omega) (by omega),M15 (Nat.mod_lt _ (by decide))]
      have e4:(T+1)*2^52+y%2^52=T*2^52+y:=by omega
      rw[e4]
      exact H0e _
   have small:¬2^52<=y->∃e1:Nat,N07 prog N06 #[.int .u64 (y:Int)] (.float .f64 e1)/\Value.float .f64 e1 = .float .f64 (T*2^52+y):=by
    intro h52
    have t0:T=0:=by omega
    exact⟨y,H0e y,by rw[t0,Nat.zero_mul,Nat.zero_add]⟩
   have c52:∀ {b:Bool},decide (((y:Nat):Int)<4503599627370496)=b->(b=false↔2^52<=y):=by
    intro b hb
    rw[<-hb,decide_eq_false_iff_not]; omega
   refine⟨λhc=>⟨λht => ?_,λ_=>⟨λ_=>small ?_,λg=>by rw[hc]at g; exact absurd g (by decide)⟩⟩,λhc=>⟨λg=>by rw[hc]at g; exact absurd g (by decide),λ_=>lt ((c52 rfl).1 hc)⟩⟩
   . exfalso
     have hc:(y:Int)<4503599627370496:=by simpa using hc
     have ht:(T:Int)-1074 > -1074:=by simpa using ht
     omega
   . have hc:(y:Int)<4503599627370496:=by simpa using hc
     omega
theorem O13{T m:Nat}(hT:T=2045)(e:m+1=2^53):T*2^52+m+1=infR:=by unfold infR; omega
theorem L11{T m:Nat}(e:m+1=2^53):(T+1)*2^52+2^52=T*2^52+m+1:=by omega
theorem M11:9218868437227405311=infR-1:=by decide
theorem W0e{V:View}{sa sd:Sl}{a d:Nat}(up:Bool)(ha:L00 V sa a)(hd:L00 V sd d)(d0:0<d)(za:bl a<=2^30)(zd:bl d<=2^30) :
 a00 prog T0p #[sa.v,sd.v,.bool up] V λv _=>v = .float .f64 (if up then upK a d else A0c a d):=by
 have hl0:=ha.len_zero
 obtain⟨K,hK⟩:∃K:Nat,K=1074:=⟨_,rfl⟩
 refine J0n sa sd up V _ ⟨λh => ?_,λh => ?_⟩
 · have h : sa.len = 0 := by have : (sa.len : Int) = 0 := by simpa using h
                             omega
   rw[hl0.1 h,T0o,X0v]; simp
 have a0:a≠0:=λe=>by
  have h:¬(sa.len:Int)=0:=by simpa using h
  have:=hl0.2 e; omega
 refine(z0m hK ha hd a0 d0 za zd).mono λv V1 l1 ⟨r,T,m,l,b,hv,hr,hm,hT,hS⟩=>⟨r,_,_,b,hv,?_⟩
 have bm:bl m<=53:=j03 hm
 have wm:wn m<=2^43:=p0d (by omega)
 refine(Z03 hr (Nat.le_trans wm (by decide))).mono λv V2 l2 hv=>⟨_,hv,?_⟩
 have w0:i64.wrap (((bl m:Nat):Int)+((T:Int)-1074))=(bl m:Int)+T-1074:=by rw[i64w (by omega) (by omega)]; omega
 rw[w0]
 refine⟨λhc => ?_,λhc => ?_⟩
 . have hc:(bl m:Int)+T-1074>1024:=by simpa using hc
   have ov:=hS.over d0 (by omega)
   refine⟨λhu=>g0p.mono λv V3 _ hv=>⟨_,hv,?_⟩,λhu => ?_⟩
   . rw[if_pos hu,(IsUp.most' hK d0 ov).unique d0 (G07 d0)]
   . rw[if_neg (by rw[hu]; decide),<-(T05.most' hK ov).unique d0 (X05 d0),M11]
 have hc:¬(bl m:Int)+T-1074>1024:=by simpa using hc
 have hT5:T<=2045:=by
  refine Nat.le_of_not_lt λg => ?_
  have hb:2^52<=m:=by rcases hS.big with e|e<;>omega
  have:bl m=53:=C16 hb (by omega)
  omega
 have hr2:=hr.le l2
 have hdown:=(hS.isDown hK d0 hm hT5).unique d0 (X05 d0)
 have tail:(b=true\/l=1)->∀(b1:Nat) (V4:View),View.le V2 V4->View.Fin V4->V4 b1=some #[.int .u32 1]->up=true ->
  a00 prog Z0h #[r.v,(Sl.mk (some (Addr.mk b1 0 none)) 1 1).v] V4 λv V5=>∃r7:Sl,v=r7.v/\a00 prog w09 #[r7.v] V5 λv V6=>∃r8:Int,v = .int .i64 r8 /\
   ((decide ((r8:Int)>53)=true->a00 prog q0e #[r7.v,.int .i64 1] V6 λv V7=>∃r9:Sl,v=r9.v/\a00 prog w09 #[r9.v] V7 λv V8=>∃r10:Int,v = .int .i64 r10 /\
     ((decide ((i64.wrap (r10+(i64.wrap (((T:Int)-1074)+1))):Int)>1024)=true->a00 prog I0d #[.int .i64 1] V8 λv _=>∃r11:Nat,v = .float .f64 r11/\Value.float .f64 r11 = .float .f64 (if up then upK a d else A0c a d)) /\
      (decide ((i64.wrap (r10+(i64.wrap (((T:Int)-1074)+1))):Int)>1024)=false->a00 prog t0f #[r9.v,.int .i64 (i64.wrap (((T:Int)-1074)+1))] V8 λv _=>∃r12:Nat,v = .float .f64 r12/\Value.float .f64 r12 = .float .f64 (if up then upK a d else A0c a d)))) /\
    (decide ((r8:Int)>53)=false->a00 prog w09 #[r7.v] V6 λv V11=>∃r13:Int,v = .int .i64 r13 /\
     ((decide ((i64.wrap (r13+((T:Int)-1074)):Int)>1024)=true->a00 prog I0d #[.int .i64 1] V11 λv _=>∃r14:Nat,v = .float .f64 r14/\Value.float .f64 r14 = .float .f64 (if up then upK a d else A0c a d)) /\
      (decide ((i64.wrap (r13+((T:Int)-1074)):Int)>1024)=false->a00 prog t0f #[r7.v,.int .i64 ((T:Int)-1074)] V11 λv _=>∃r15:Nat,v = .float .f64 r15/\Value.float .f64 r15 = .float .f64 (if up then upK a d else A0c a d))))):=by
  intro hrest b1 V4 l4 _ hb1 hu
  have hup:=(hS.isUp1 hK d0 hm hT5 hrest).unique d0 (G07 d0)
  rw[if_pos hu,<-hup]
  refine(S0e (hr2.le l4) (L00.lit (n:=1) hb1 (by omega) (by omega)) (Nat.le_trans wm (by decide)) (Nat.le_trans K11 (by decide))).mono λv V5 l5 ⟨r7,hv,h7⟩=>⟨r7,hv,?_⟩
  have bm1:bl (m+1)<=54:=j03 (by omega)
  have wm1:wn (m+1)<=2^43:=p0d (by omega)
  refine(Z03 h7 (Nat.le_trans wm1 (by decide))).mono λv V6 l6 hv=>⟨_,hv,λh8 => ?_,λh8 => ?_⟩
  . have h8:((bl (m+1):Nat):Int)>53:=by simpa using h8
    have e:m+1=2^53:=by
     refine Classical.byContradiction λg => ?_
     have:=j03 (a:=m+1) (k:=53) (by omega)
     omega
    refine(j08 (n:=1) (h7.le l6) (Nat.le_trans wm1 (by decide)) (by omega)).mono λv V7 l7 ⟨r9,hv,h9⟩=>⟨r9,hv,?_⟩
    have e2:(m+1) / 2^1=2^52:=by rw[e]
    rw[e2]at h9
    have e3:bl (2^52)=53:=by decide
    refine(Z03 h9 (Nat.le_trans (p0d (k:=2^43) (by omega)) (by decide))).mono λv V8 l8 hv=>⟨_,hv,?_⟩
    rw[e3]
    have w1:i64.wrap ((T:Int)-1074+1)=((T+1:Nat):Int)-1074:=by rw[i64w (by omega) (by omega)]; omega
    rw[w1]
    have w2:i64.wrap (((53:Nat):Int)+(((T+1:Nat):Int)-1074))=(T:Int)-1020:=by rw[i64w (by omega) (by omega)]; omega
    rw[w2]
    refine⟨λg => ?_,λg => ?_⟩
    . have g:(T:Int)-1020>1024:=by simpa using g
      have t5:T=2045:=by omega
      refine g0p.mono λv V9 _ hv=>⟨_,hv,?_⟩
      rw[O13 t5 e]
    . have g:¬(T:Int)-1020>1024:=by simpa using g
      refine(g09 (T:=T+1) (h9.le l8) (by omega) (.inr (Nat.le_refl _)) (by omega)).mono λv V10 _ hv=>⟨_,hv,?_⟩
      rw[L11 (T:=T) e]
  . have h8:¬((bl (m+1):Nat):Int)>53:=by simpa using h8
    refine(Z03 (h7.le l6) (Nat.le_trans wm1 (by decide))).mono λv V11 l11 hv=>⟨_,hv,?_⟩
    have w2:i64.wrap (((bl (m+1):Nat):Int)+((T:Int)-1074))=(bl (m+1):Int)+T-1074:=by rw[i64w (by omega) (by omega)]; omega
    rw[w2]
    refine⟨λg => ?_,λg => ?_⟩
    . exfalso
      have g:(bl (m+1):Int)+T-1074>1024:=by simpa using g
      omega
    . refine(g09 (T:=T) (h7.le (View.le_trans l6 l11)) (w0i (a:=m+1) (k:=53) (by omega)) (by have:=hS.big; omega) hT5).mono λv V10 _ hv=>⟨_,hv,?_⟩
      rw[Nat.add_assoc]
 refine⟨λhu=>⟨λh1 b1 V4 l4 f4 hb1 => ?_,λh1=>⟨λh2 b1 V4 l4 f4 hb1 => ?_,λh2 => ?_⟩⟩,λhu => ?_⟩
 · have h1 : l = 1 := by have : (l : Int) = 1 := by simpa using h1
                         omega
   exact tail (.inr h1) b1 V4 l4 f4 hb1 hu
 . exact tail (.inl h2) b1 V4 l4 f4 hb1 hu
 · have h1 : ¬ l = 1 := by have : ¬ (l : Int) = 1 := by simpa using h1
                           omega
   have hno:¬(b=true\/l=1):=by rw[h2]; simp[h1]
   have hup:=(hS.isUp hK d0 hm hT5 hno).unique d0 (G07 d0)
   rw[if_pos hu,<-hup]
   exact(g09 hr2 hm hS.big hT5).mono λv V24 _ hv=>⟨_,hv,rfl⟩
 . rw[if_neg (by rw[hu]; decide),<-hdown]
   exact(g09 hr2 hm hS.big hT5).mono λv V25 _ hv=>⟨_,hv,rfl⟩
theorem P13{r:Nat}(h:r<=infR):(((FloatKind.f64.format.order r 0 != some .eq)=true->0<r/\Op.negFloat .f64 r=q03 (-(r:Int)))/\((FloatKind.f64.format.order r 0 != some .eq)=false->r=0)):=by
 have hr63:r<2^63:=by unfold infR at h; omega
 have hok:okW r:=⟨by omega,by rw[Nat.mod_eq_of_lt hr63]; exact h⟩
 have hkey:key r=(r:Int):=q0m hr63
 have k0:key 0=0:=by decide
 have e:(FloatKind.f64.format.order r 0 != some .eq) = !decide ((r:Int)=0):=by
  show(!(FloatKind.f64.format.order r 0==some .eq))=_
  rw[e0m hok (by decide),hkey,k0]
 rw[e]
 refine⟨λh1 => ?_,λh1 => ?_⟩
 . have h1:r≠0:=λc=>by subst c; simp at h1
   refine⟨by omega,?_⟩
   rw[Z0a (by omega),if_pos hr63,u0t (by omega),Nat.add_comm]
 . refine Classical.byContradiction λc => ?_
   rw[decide_eq_false (by omega)]at h1; simp at h1
theorem A0m{A:Int}{r:Nat}{neg:Bool}(hn:neg=decide (A<0))(h:r<=infR){Q:Value->Prop}(k:Q (.float .f64 (q03 (if 0<=A then(r:Int)else -(r:Int))))) :
 ((neg=true->((FloatKind.f64.format.order r 0 != some .eq)=true->Q (.float .f64 (Op.negFloat .f64 r)))/\((FloatKind.f64.format.order r 0 != some .eq)=false->Q (.float .f64 r)))/\(neg=false->Q (.float .f64 r))):=by
 have nw:=P13 h
 refine⟨λhc=>⟨λh1 => ?_,λh1 => ?_⟩,λhc => ?_⟩
 . have hA:¬0<=A:=by rw[hn,decide_eq_true_iff]at hc; omega
   rw[if_neg hA]at k; rw[(nw.1 h1).2]; exact k
 . have hA:¬0<=A:=by rw[hn,decide_eq_true_iff]at hc; omega
   rw[if_neg hA]at k
   have r0:=nw.2 h1
   subst r0; exact k
 . have hA:0<=A:=by rw[hn,decide_eq_false_iff_not]at hc; omega
   rw[if_pos hA,w0m]at k; exact k
theorem B0m{V:View}{x:NumV}{z:Cq}(hx:QAt V x z)(hz:z.sz<=2^30):a00 prog a0s #[x.val] V λv _=>v = .float .f64 (q03 (Z08 z.re)):=by
 have zA:=z.szA; have zD:=z.szD
 have hn:=hx.re.1
 have d0:0<z.D:=by have:=z.canon.rep.pos; omega
 refine l0q x V _ ((W0e x.re.neg hx.re.2 hx.under d0 (by omega) (by omega)).mono λv V1 _ hv=>⟨_,hv,?_⟩)
 have hle:(if x.re.neg=true then upK z.A.natAbs z.D else A0c z.A.natAbs z.D)<=infR:=by
  split
  . exact(G07 d0).le
  . exact Nat.le_of_lt (X05 d0).lt
 refine A0m (Q:=λv=>v = .float .f64 (q03 (Z08 z.re))) hn hle ?_
 congr 2
 unfold Z08
 rw[<-j0r z,<-N13 z]
 by_cases c:0<=z.A
 . rw[if_pos c,if_pos ((L0f z).1 c),hn,decide_eq_false (by omega)]; rfl
 . rw[if_neg c,if_neg (λg=>c ((L0f z).2 g)),hn,decide_eq_true (by omega)]; rfl
theorem M0f{V:View}{x:NumV}{z:Cq}(hx:QAt V x z)(hz:z.sz<=2^30):a00 prog b0s #[x.val] V λv _=>v = .float .f64 (q03 (f0a z.re)):=by
 have zA:=z.szA; have zD:=z.szD
 have hn:=hx.re.1
 have d0:0<z.D:=by have:=z.canon.rep.pos; omega
 refine m0q x V _ ((W0e (!x.re.neg) hx.re.2 hx.under d0 (by omega) (by omega)).mono λv V1 _ hv=>⟨_,hv,?_⟩)
 have hle:(if(!x.re.neg)=true then upK z.A.natAbs z.D else A0c z.A.natAbs z.D)<=infR:=by
  split
  . exact(G07 d0).le
  . exact Nat.le_of_lt (X05 d0).lt
 refine A0m (Q:=λv=>v = .float .f64 (q03 (f0a z.re))) hn hle ?_
 congr 2
 unfold f0a
 rw[<-j0r z,<-N13 z]
 by_cases c:0<=z.A
 . rw[if_pos c,if_pos ((L0f z).1 c),hn,decide_eq_false (by omega)]; rfl
 . rw[if_neg c,if_neg (λg=>c ((L0f z).2 g)),hn,decide_eq_true (by omega)]; rfl
theorem N0k{V:View}{x:Nat}(h:x<2^64):a00 prog W0p #[.float .f64 x] V λv _=>v = .bool (decide (x%2^63<infR)):=by
 refine K0n x V _ ⟨x,G0e x,?_⟩
 have hp52:(2:Int)^(min (Int.toNat 52) u64.bits)=((2^52:Nat):Int):=by decide
 have e:=t0g (x:=x / 2^52) (m:=2047) (by omega) (by omega)
 have e1:x / 2^52 &&& 2047=fld x:=Nat.and_two_pow_sub_one_eq_mod (x / 2^52) 11
 rw[e1]at e
 rw[hp52,L0i]
 rw[show(((2047:Nat)):Int)=2047 from rfl]at e
 rw[e]
 congr 1
 have hf:fld x=2047↔¬x%2^63<infR:=by unfold fld infR; omega
 by_cases c:fld x=2047
 . have:=hf.1 c
   rw[c,decide_eq_false this]; rfl
 . have h2:x%2^63<infR:=Classical.byContradiction λg=>c (hf.2 g)
   rw[decide_eq_true h2]
   have:((fld x:Nat):Int)≠2047:=by omega
   simp[this]
theorem u0p(a b:Rat):(⟨a,0⟩:Cq)*⟨b,0⟩=⟨a*b,0⟩:=Cq.ext' (by rw[Y0m]; grind) (by rw[Z0m]; grind)
theorem w0p(a b:Rat):(⟨a,0⟩:Cq)+⟨b,0⟩=⟨a+b,0⟩:=Cq.ext' (by rw[S0f]) (by rw[T0f]; grind)
theorem x0p(a:Rat) : -(⟨a,0⟩:Cq)=⟨-a,0⟩:=Cq.ext' (by rw[d0e]) (by rw[e0e]; grind)
theorem J14(x:Nat):fq x=fkq (key x):=rfl
theorem N15:fq 0=0:=by
 unfold fq
 have:kz (key 0)=0:=by decide
 rw[this]; rw[Rat.div_def]; exact Rat.zero_mul _
structure BdAt (V:View) (b:BdV) (e:Eb):Prop where
 inf:b.inf=e.inf
 num:K05 V b.x e.num
 ok:e.ok
theorem BdAt.le{V V':View}{b:BdV}{e:Eb}(hle:V.le V')(h:BdAt V b e):BdAt V' b e:=⟨h.inf,h.num.le hle,h.ok⟩
theorem BdAt.range{V:View}{b:BdV}{e:Eb}(h:BdAt V b e):e.inf=0\/e.inf=1\/e.inf = -1:=by
 rcases h.ok with h|⟨_,h⟩
 . exact .inl h
 . exact .inr h
theorem BdAt.zero(V:View):BdAt V (BdV.mk 0 (NumV.mk (WhV.mk false (Sl.mk none 0 0)) (WhV.mk false (Sl.mk none 0 0)) (Sl.mk none 0 0))) (Eb.fin 0):=⟨rfl,K05.zero V,.inl rfl⟩
theorem BdAt.infty(V:View){i:Int}(h:i=1\/i = -1):BdAt V (BdV.mk i (NumV.mk (WhV.mk false (Sl.mk none 0 0)) (WhV.mk false (Sl.mk none 0 0)) (Sl.mk none 0 0))) ⟨i,0⟩:=⟨rfl,K05.zero V,.inr ⟨rfl,h⟩⟩
theorem BdAt.signs(V:View){i:Int}(h:(⟨i,0⟩:Eb).ok):BdAt V (BdV.mk i (NumV.mk (WhV.mk false (Sl.mk none 0 0)) (WhV.mk false (Sl.mk none 0 0)) (Sl.mk none 0 0))) ⟨i,0⟩:=⟨rfl,K05.zero V,h⟩
theorem O11{r:Nat}(h:r<=infR):rm r<2^2099:=by
 have h1:rm r<=rm infR:=B0f.2 h
 obtain⟨e,he⟩:∃e,e=2046:=⟨_,rfl⟩
 rw[f0m he]at h1
 exact Nat.lt_of_le_of_lt h1 (P10 (a:=52+e) (b:=2099) (by omega))
theorem w0t(D:Nat):(0:Rat)=((0:Int):Rat) / (D:Rat):=by simp[Rat.div_def]
theorem g17{k:Int}(h:inK k):(⟨fkq k,0⟩:Cq).sz<=2100:=by
 have R:Rep ⟨fkq k,0⟩ (kz k) 0 (2^1074):=⟨J11,rfl,w0t _⟩
 have hk:(kz k).natAbs=rm k.natAbs:=by unfold kz; split<;>omega
 refine R.sz ?_ (by simp[z0e]) ?_
 . rw[hk]
   have h2:k.natAbs<=infR:=by unfold inK at h; omega
   have:=j03 (O11 h2)
   omega
 . have:=H07 1074; omega
theorem s0v{k:Int}(h:inK k):(endE k).num.sz<=2100:=by
 have z:(Cq.zero).sz<=2100:=Nat.le_trans f0e (by omega)
 unfold endE Eb.num
 split
 . exact z
 . split
   . exact z
   . exact g17 h
theorem t0v{V:View}{x:Nat}(h:finW x):a00 prog w0u #[.float .f64 x] V λv V'=>∃r:NumV,v=r.val/\K05 V' r ⟨fkq (key x),0⟩:=by
 refine E0s x V _ ((t0t (c:=CxV.mk x 0) h (show finW 0 from⟨by decide,by decide⟩)).mono λv V1 _ ⟨r,hv,hr⟩=>⟨r,0,hv,r,rfl,?_⟩)
 have hr:K05 V1 r ⟨fq x,fq 0⟩:=hr
 rw[N15,J14]at hr; exact hr
theorem z0w{V:View}{x:Nat}(h:okW x):a00 prog e10 #[.float .f64 x] V λv V'=>∃b:BdV,v=b.val/\BdAt V' b (endE (key x)):=by
 have hk:=B11 h
 refine u0y x V _ ((q0w h.1).mono λv V1 _ hv=>⟨_,hv,λhc => ?_,λhc => ?_⟩)
 . have hc:key x=(infR:Int):=by simp only[decide_eq_true_eq]at hc; exact hc.2
   refine⟨_,rfl,?_⟩
   unfold endE; rw[if_pos hc]; exact .infty V1 (.inl rfl)
 have hc:key x≠(infR:Int):=by simp only[decide_eq_false_iff_not]at hc; exact λe=>hc ⟨h,e⟩
 refine(f0p h.1).mono λv V2 _ hv=>⟨_,hv,λhd => ?_,λhd => ?_⟩
 . have hd:key x = -(infR:Int):=by simp only[decide_eq_true_eq]at hd; exact hd.2
   refine⟨_,rfl,?_⟩
   unfold endE; rw[if_neg hc,if_pos hd]; exact .infty V2 (.inr rfl)
 have hd:key x ≠ -(infR:Int):=by simp only[decide_eq_false_iff_not]at hd; exact λe=>hd ⟨h,e⟩
 have hf:finW x:=by
  refine⟨h.1,?_⟩
  have a:=J0q h.1
  have:(key x).natAbs<infR:=by omega
  omega
 refine(t0v hf).mono λv V3 _ ⟨r,hv,hr⟩=>⟨r,hv,_,rfl,?_⟩
 unfold endE; rw[if_neg hc,if_neg hd]; exact⟨rfl,hr,.inl rfl⟩
theorem q0k{V:View}(a b:Int):a00 prog X0h #[.int .i64 a,.int .i64 b] V λv _=>v = .int .i64 (cmpZ a b):=by
 have nan:∀ {V:View} (a:Int),a00 prog B0k #[.int .i64 a] V λv _=>v = .bool false:=λa=>o0j a _ _ (by simp)
 refine k0h a b V _ ((nan a).mono λv V1 _ hv=>⟨_,hv,(nan b).mono λv V2 _ hv=>⟨_,hv,λh=>absurd h (by simp),λ_=>⟨λh=>absurd h (by simp),λ_=>⟨λh => ?_,λh=>⟨λh' => ?_,λh' => ?_⟩⟩⟩⟩⟩)
 . rw[b0v (by simpa using h)]
 . rw[d0v (by simpa using h')]
 . simp only[decide_eq_false_iff_not]at h h'
   rw[c0v (by omega)]
theorem O15(x y:Rat):(⟨x,0⟩:Cq).cmp ⟨y,0⟩=cmpR x y:=by
 unfold Cq.cmp
 dsimp only
 by_cases c:cmpR x y=0
 . rw[c]; rw[if_neg (by simp)]; unfold cmpR; rw[if_neg (by grind),if_pos rfl]
 . rw[if_pos c]
theorem W0g{V:View}{a b:BdV}{e f:Eb}(ha:BdAt V a e)(hb:BdAt V b f)(hz:e.num.sz<=2^40)(hw:f.num.sz<=2^40) :
 a00 prog g0u #[a.val,b.val] V λv _=>v = .int .i64 (e.cmp f):=by
 have ia:=ha.inf
 have ib:=hb.inf
 refine F0s a b V _ ⟨λh => ?_,λh=>⟨λh' => ?_,λh' => ?_⟩⟩
 . have h:e.inf≠0:=by rw[<-ia]; simpa using h
   refine(q0k a.inf b.inf).mono λv V1 _ hv=>⟨_,hv,?_⟩
   unfold Eb.cmp; rw[if_pos (.inl h),ia,ib]
 . have h':f.inf≠0:=by rw[<-ib]; simpa using h'
   refine(q0k a.inf b.inf).mono λv V1 _ hv=>⟨_,hv,?_⟩
   unfold Eb.cmp; rw[if_pos (.inr h'),ia,ib]
 . have h:e.inf=0:=by rw[<-ia]; simpa using h
   have h':f.inf=0:=by rw[<-ib]; simpa using h'
   refine(g0t ha.num hb.num hz hw).mono λv V1 _ hv=>⟨_,hv,?_⟩
   unfold Eb.cmp; rw[if_neg (by rw[h,h']; simp)]
   exact congrArg _ (O15 e.x f.x)
theorem P15:(Eb.fin 0).num.sz<=1:=f0e
theorem N0f{V:View}{a:BdV}{e:Eb}(ha:BdAt V a e)(hz:e.num.sz<=2^40):a00 prog q0f #[a.val] V λv _=>v = .int .i64 e.sign :=
 z0q a V _ ((W0g ha (BdAt.zero V) hz (Nat.le_trans P15 (by decide))).mono λv V1 _ hv=>⟨_,hv,rfl⟩)
theorem X0g{V:View}{a:BdV}{e:Eb}(ha:BdAt V a e):a00 prog q0u #[a.val] V λv V'=>∃b:BdV,v=b.val/\BdAt V' b e.neg:=by
 refine G0s a V _ ((K0f ha.num).mono λv V1 _ ⟨r,hv,hr⟩=>⟨r,hv,_,rfl,?_⟩)
 have ia:=ha.inf
 have hr':=ha.range
 have e1:i64.wrap (0-a.inf) = -e.inf:=by rw[i64w (by omega) (by omega)]; omega
 refine⟨e1,?_,Eb.neg_ok ha.ok⟩
 have : -e.num=e.neg.num:=x0p e.x
 rw[<-this]; exact hr
theorem Y0g{V:View}{a b:BdV}{e f:Eb}(ha:BdAt V a e)(hb:BdAt V b f)(hz:e.num.sz<=2^40)(hw:f.num.sz<=2^40) :
 a00 prog m0u #[a.val,b.val] V λv V'=>∃c:BdV,v=c.val/\BdAt V' c (e.add f):=by
 have ia:=ha.inf
 have ib:=hb.inf
 refine H0s a b V _ ⟨λh => ?_,λh=>⟨λh' => ?_,λh' => ?_⟩⟩
 . have h:e.inf≠0:=by rw[<-ia]; simpa using h
   refine⟨a,rfl,?_⟩
   unfold Eb.add; rw[if_pos h]; exact ha
 . have h:e.inf=0:=by rw[<-ia]; simpa using h
   have h':f.inf≠0:=by rw[<-ib]; simpa using h'
   refine⟨b,rfl,?_⟩
   unfold Eb.add; rw[if_neg (by rw[h]; simp),if_pos h']; exact hb
 . have h:e.inf=0:=by rw[<-ia]; simpa using h
   have h':f.inf=0:=by rw[<-ib]; simpa using h'
   refine(J0f ha.num hb.num hz hw).mono λv V1 _ ⟨r,hv,hr⟩=>⟨r,hv,_,rfl,?_⟩
   unfold Eb.add; rw[if_neg (by rw[h]; simp),if_neg (by rw[h']; simp)]
   refine⟨rfl,?_,.inl rfl⟩
   have:e.num+f.num=(⟨0,e.x+f.x⟩:Eb).num:=w0p e.x f.x
   rw[<-this]; exact hr
theorem K09{V:View}{a b:BdV}{e f:Eb}(ha:BdAt V a e)(hb:BdAt V b f)(hz:e.num.sz<=2^40)(hw:f.num.sz<=2^40) :
 a00 prog l0u #[a.val,b.val] V λv V'=>∃c:BdV,v=c.val/\BdAt V' c (e.mul f):=by
 have ia:=ha.inf
 have ib:=hb.inf
 have key:¬(e.inf=0/\f.inf=0)->∀ {W:View},V.le W->a00 prog q0f #[a.val] W λv V2=>∃r2:Int,v = .int .i64 r2/\a00 prog q0f #[b.val] V2 λv V3=>∃r3:Int,v = .int .i64 r3 /\
  ∃c:BdV,(BdV.mk (i64.wrap (r2*r3)) (NumV.mk (WhV.mk false (Sl.mk none 0 0)) (WhV.mk false (Sl.mk none 0 0)) (Sl.mk none 0 0))).val=c.val/\BdAt V3 c (e.mul f):=by
  intro hn W hle
  refine(N0f (ha.le hle) hz).mono λv V2 l2 hv=>⟨_,hv,(N0f (hb.le (View.le_trans hle l2)) hw).mono λv V3 _ hv=>⟨_,hv,_,rfl,?_⟩⟩
  have r1:e.sign = -1\/e.sign=0\/e.sign=1:=Eb.cmp_range _ _
  have r2:f.sign = -1\/f.sign=0\/f.sign=1:=Eb.cmp_range _ _
  have hm:=Eb.mul_ok e f
  unfold Eb.mul at hm ⊢
  rw[if_neg hn]at hm ⊢
  have:i64.wrap (e.sign*f.sign)=e.sign*f.sign:=by
   rcases r1 with r1|r1|r1<;>rcases r2 with r2|r2|r2<;>rw[r1,r2]<;>decide
  rw[this]; exact .signs V3 hm
 refine I0s a b V _ ⟨λh=>⟨λh' => ?_,λh' => ?_⟩,λh => ?_⟩
 . have h:e.inf=0:=by rw[<-ia]; simpa using h
   have h':f.inf=0:=by rw[<-ib]; simpa using h'
   refine(l0k ha.num hb.num hz hw).mono λv V1 _ ⟨r,hv,hr⟩=>⟨r,hv,_,rfl,?_⟩
   unfold Eb.mul; rw[if_pos ⟨h,h'⟩]
   refine⟨rfl,?_,.inl rfl⟩
   have:e.num*f.num=(⟨0,e.x*f.x⟩:Eb).num:=u0p e.x f.x
   rw[<-this]; exact hr
 . have h':f.inf≠0:=by rw[<-ib]; simpa using h'
   exact key (λg=>h' g.2) (View.le_refl V)
 . have h:e.inf≠0:=by rw[<-ia]; simpa using h
   exact key (λg=>h g.1) (View.le_refl V)
theorem j0b(e:Eb):e.neg.num.sz=e.num.sz:=by
 have : -e.num=e.neg.num:=x0p e.x
 rw[<-this]; exact W0f _
theorem M06(e f:Eb):(e.add f).num.sz<=e.num.sz+f.num.sz+1:=by
 unfold Eb.add; split
 . omega
 . split
   . omega
   . have:e.num+f.num=(⟨0,e.x+f.x⟩:Eb).num:=w0p e.x f.x
     rw[<-this]; exact U0f _ _
theorem u0g(e f:Eb):(e.mul f).num.sz<=e.num.sz+f.num.sz+1:=by
 unfold Eb.mul; split
 . have:e.num*f.num=(⟨0,e.x*f.x⟩:Eb).num:=u0p e.x f.x
   rw[<-this]; exact a0j _ _
 . exact Nat.le_trans f0e (by omega)
def bdC(V:View)(x:List Value)(e:Eb):Prop:=∃b:BdV,x=b.val.cells.toList/\BdAt V b e
theorem bdC.le{V V':View}(hle:V.le V')(x:List Value)(e:Eb)(h:bdC V x e):bdC V' x e:=by
 obtain⟨b,e1,hb⟩:=h; exact⟨b,e1,hb.le hle⟩
def x0t(V:View)(s:Sl)(es:List Eb):Prop:=l01 6 bdC V s es
theorem x0t.le{V V':View}(hle:V.le V'){s:Sl}{es:List Eb}(h:x0t V s es):x0t V' s es:=l01.le (bdC.le hle) hle h
theorem S0y{V:View}{a b:BdV}{e f:Eb}{p:Option Addr}{way:Int}(ha:BdAt V a e)(hb:BdAt V b f)(hz:e.num.sz<=2^40)(hw:f.num.sz<=2^40)(hp:V.load p=some (.int .i64 way)) :
 a00 prog j0s #[a.val,b.val,.pointer p] V λv _=>v = .bool (decide (e.cmp f=way)) :=
 A0q a b p V _ ⟨way,hp,(W0g ha hb hz hw).mono λv V1 _ hv=>⟨_,hv,by
  congr 1⟩⟩
theorem L06(way:Int):∀ {es:List Eb} {i:Nat} (h:i+1<es.length),Eb.pick way (es.take (i+2))=if Eb.cmp es[i+1] (Eb.pick way (es.take (i+1)))=way then es[i+1]else Eb.pick way (es.take (i+1))
 | [],_,h=>by simp at h
 | e::es,i,h=>by
   have hi:i<es.length:=by simpa using h
   have e1:(e::es).take (i+2)=e::es.take (i+1):=rfl
   have e2:(e::es).take (i+1)=e::es.take i:=rfl
   have e3:es.take (i+1)=es.take i++[es[i]]:=by rw[List.take_add_one]; simp[hi]
   have e4:(e::es)[i+1]=es[i]:=rfl
   rw[e1,e2,e3,e4]
   show List.foldl _ e (es.take i++[es[i]])=_
   rw[List.foldl_append]; rfl
theorem Q13(a:Option Addr)(k:Nat):Option.map (λq=>Addr.add q (Int.toNat (k:Int)*6)) (Option.map (λq=>Addr.add q (Int.toNat 1*6)) a)=Option.map (λq=>Addr.add q ((k+1)*6)) a:=by
 rw[Option.map_map]
 congr 1
 funext q
 show(q.add (Int.toNat 1*6)).add (Int.toNat (k:Int)*6)=_
 rw[y0i,Int.toNat_natCast]
 congr 1
 show 1*6+k*6=(k+1)*6
 omega
theorem y0t{V:View}{s:Sl}{es:List Eb}{way:Int}(h:x0t V s es)(h0:es≠[])(hn:es.length<=2^32)(hS:∀e∈es,e.num.sz<=2^40) :
 a00 prog I0x #[.int .i64 way,s.v] V λv V'=>∃b:BdV,v=b.val/\BdAt V' b (Eb.pick way es):=by
 have hl:=h.len
 have hcap:=h.cap
 have h1:1<=es.length:=by
  rcases Nat.eq_zero_or_pos es.length with c|c
  . exact absurd (List.eq_nil_of_length_eq_zero c) h0
  . exact c
 refine Y0u way s V _ (λ_ x V'=>∃i:Nat,x.t16=i/\i+1<=es.length/\BdAt V' x.o6 (Eb.pick way (es.take (i+1)))/\(Eb.pick way (es.take (i+1))).num.sz<=2^40) (λ_ x _=>(es.length-x.t16).toNat) ?_
 intro b1 V1 l1 hb1
 obtain⟨hb,x,⟨b0,hx,hb0⟩,_,hh,hs⟩:=l01.get (h.le l1) (t:=0) (by omega) (z:=es[0]) (by simp)
 refine⟨hb,b0,hx▸hh,hs,⟨by omega,by omega,by omega⟩,⟨0,rfl,h1,?_,?_⟩,?_⟩
 . have:es.take (0+1)=[es[0]]:=by
     cases es with
     | nil=>simp at h1
     | cons e es=>simp
   rw[this]; exact hb0
 . have:es.take (0+1)=[es[0]]:=by
     cases es with
     | nil=>simp at h1
     | cons e es=>simp
   rw[this]; exact hS _ (List.getElem_mem _)
 rintro⟨t,o4,o6⟩ V2 l2 ⟨i,rfl,hi,ho,hz⟩
 dsimp only at ho hz ⊢
 have hlen:((((((s.len:Nat):Int)).toNat-Int.toNat 1:Nat):Int))=(es.length:Int)-1:=by rw[Int.toNat_natCast,hl]; show((es.length-1:Nat):Int)=_; omega
 rw[hlen]
 refine⟨λhlt => ?_,λhge => ?_⟩
 . simp only[decide_eq_true_eq]at hlt
   have hi2:i+1<es.length:=by omega
   have hc1:¬s.cap=Int.toNat 1:=by show ¬s.cap=1; omega
   rw[if_neg hc1,Q13]
   obtain⟨hb',x',⟨b',hx',hb''⟩,_,hh',hs'⟩:=l01.get (h.le (View.le_trans l1 l2)) (t:=((i+1:Nat):Int)) (by omega) (z:=es[i+1]) (by rw[Int.toNat_natCast]; simp[hi2])
   rw[Int.toNat_natCast]at hh' hs'
   have hsm:(Option.map (λq=>Addr.add q (Int.toNat 1*6)) s.a).isSome=true:=by
    have:=hb'.2.2
    rw[Option.isSome_map]; exact this
   refine⟨⟨by omega,by omega,hsm⟩,b',hx'▸hh',hs',?_⟩
   have hp:V2.load (some (Addr.mk b1 0 none))=some (.int .i64 way):=H01 l2 (by simp[View.load,hb1])
   refine(S0y hb'' ho (hS _ (List.getElem_mem _)) hz hp).mono λv V3 l3 hv=>⟨_,hv,λhc => ?_,λhc => ?_⟩
   . simp only[decide_eq_true_eq]at hc
     rw[i64w (by omega) (by omega)]
     refine⟨⟨i+1,by omega,by omega,?_,?_⟩,by omega⟩
     . rw[L06 way hi2,if_pos hc]; exact hb''.le l3
     . rw[L06 way hi2,if_pos hc]; exact hS _ (List.getElem_mem _)
   . simp only[decide_eq_false_iff_not]at hc
     rw[i64w (by omega) (by omega)]
     refine⟨⟨i+1,by omega,by omega,?_,?_⟩,by omega⟩
     . rw[L06 way hi2,if_neg hc]; exact ho.le l3
     . rw[L06 way hi2,if_neg hc]; exact hz
 . simp only[decide_eq_false_iff_not]at hge
   have:i+1=es.length:=by omega
   rw[this,List.take_length]at ho
   exact⟨_,rfl,ho⟩
theorem p0p{V:View}{s:Sl}{es:List Eb}(h:x0t V s es)(h0:es≠[])(hn:es.length<=2^32)(hS:∀e∈es,e.num.sz<=2^40) :
 a00 prog p0u #[s.v] V λv V'=>∃b:BdV,v=b.val/\BdAt V' b (Eb.pick (-1) es) :=
 J0s s V _ ((y0t h h0 hn hS).mono λ_ _ _ ⟨b,hv,hb⟩=>⟨b,hv,b,rfl,hb⟩)
theorem M0i{V:View}{s:Sl}{es:List Eb}(h:x0t V s es)(h0:es≠[])(hn:es.length<=2^32)(hS:∀e∈es,e.num.sz<=2^40) :
 a00 prog n0n #[s.v] V λv V'=>∃b:BdV,v=b.val/\BdAt V' b (Eb.pick 1 es) :=
 U0l s V _ ((y0t h h0 hn hS).mono λ_ _ _ ⟨b,hv,hb⟩=>⟨b,hv,b,rfl,hb⟩)
structure EsAt (V:View) (s:SetV) (e:Es):Prop where
 lo:BdAt V s.lo e.lo
 hi:BdAt V s.hi e.hi
theorem EsAt.le{V V':View}{s:SetV}{e:Es}(hle:V.le V')(h:EsAt V s e):EsAt V' s e:=⟨h.lo.le hle,h.hi.le hle⟩
def P06(e:Es)(S:Nat):Prop:=e.lo.num.sz<=S/\e.hi.num.sz<=S
theorem s0k{V:View}{s:SetV}{e:Es}(h:EsAt V s e):a00 prog T0z #[s.val] V λv V'=>∃r:SetV,v=r.val/\EsAt V' r e.neg :=
 w0y s V _ ((X0g h.hi).mono λ_ _ l1 ⟨a,hv,ha⟩=>⟨a,hv,(X0g (h.lo.le l1)).mono λ_ _ l2 ⟨b,hv,hb⟩=>⟨b,hv,_,rfl,ha.le l2,hb⟩⟩)
theorem N0c{V:View}{s t:SetV}{e f:Es}(h:EsAt V s e)(k:EsAt V t f){S:Nat}(he:P06 e S)(hf:P06 f S)(hS:S<=2^30) :
 a00 prog Q0z #[s.val,t.val] V λv V'=>∃r:SetV,v=r.val/\EsAt V' r (e.add f) :=
 x0y s t V _ ((Y0g h.lo k.lo (by have:=he.1; omega) (by have:=hf.1; omega)).mono λv V1 l1 ⟨a,hv,ha⟩=>⟨a,hv,
  (Y0g (h.hi.le l1) (k.hi.le l1) (by have:=he.2; omega) (by have:=hf.2; omega)).mono λv V2 l2 ⟨b,hv,hb⟩=>⟨b,hv,_,rfl,ha.le l2,hb⟩⟩)
theorem A0w{V:View}{b:Nat}{r1 r2 r3 r4:BdV}{e1 e2 e3 e4:Eb}(h1:BdAt V r1 e1)(h2:BdAt V r2 e2)(h3:BdAt V r3 e3)(h4:BdAt V r4 e4)
 (hb:V b=some #[.int .i64 r1.inf,.bool r1.x.re.neg,r1.x.re.mag.v,.bool r1.x.im.neg,r1.x.im.mag.v,r1.x.under.v,.int .i64 r2.inf,.bool r2.x.re.neg,r2.x.re.mag.v,.bool r2.x.im.neg,r2.x.im.mag.v,r2.x.under.v,.int .i64 r3.inf,.bool r3.x.re.neg,r3.x.re.mag.v,.bool r3.x.im.neg,r3.x.im.mag.v,r3.x.under.v,.int .i64 r4.inf,.bool r4.x.re.neg,r4.x.re.mag.v,.bool r4.x.im.neg,r4.x.im.mag.v,r4.x.under.v]) :
 x0t V ⟨some ⟨b,0,none⟩,4,4⟩ [e1,e2,e3,e4] :=
 G02 (o:=r1.val.cells.toList++(r2.val.cells.toList++(r3.val.cells.toList++(r4.val.cells.toList++[])))) hb
  ⟨_,_,rfl,rfl,⟨r1,rfl,h1⟩,_,_,rfl,rfl,⟨r2,rfl,h2⟩,_,_,rfl,rfl,⟨r3,rfl,h3⟩,_,_,rfl,rfl,⟨r4,rfl,h4⟩,rfl⟩ rfl
theorem k0r{e f:Es}{S:Nat}(he:P06 e S)(hf:P06 f S):∀x∈Es.prods e f,x.num.sz<=2*S+1:=by
 intro x hx
 simp only[Es.prods,List.mem_cons,List.not_mem_nil,or_false]at hx
 have a:=he.1; have b:=he.2; have c:=hf.1; have d:=hf.2
 rcases hx with rfl|rfl|rfl|rfl
 . have:=u0g e.lo f.lo; omega
 . have:=u0g e.lo f.hi; omega
 . have:=u0g e.hi f.lo; omega
 . have:=u0g e.hi f.hi; omega
theorem u0v{way:Int}{es:List Eb}{S:Nat}(h0:es≠[])(h:∀e∈es,e.num.sz<=S):(Eb.pick way es).num.sz<=S:=by
 cases es with
 | nil=>exact absurd rfl h0
 | cons e es =>
   show(List.foldl (λo x=>if x.cmp o=way then x else o) e es).num.sz<=S
   rcases Eb.pick_mem way es e with g|g
   . rw[g]; exact h e (by simp)
   . exact h _ (by simp[g])
theorem O0c{V:View}{s t:SetV}{e f:Es}(h:EsAt V s e)(k:EsAt V t f){S:Nat}(he:P06 e S)(hf:P06 f S)(hS:S<=2^30) :
 a00 prog S0z #[s.val,t.val] V λv V'=>∃r:SetV,v=r.val/\EsAt V' r (e.mul f):=by
 have a:=he.1; have b:=he.2; have c:=hf.1; have d:=hf.2
 have hp:=k0r he hf
 have hp40:∀x∈Es.prods e f,x.num.sz<=2^40:=λx hx=>by have:=hp x hx; omega
 refine y0y s t V _ ((K09 h.lo k.lo (by omega) (by omega)).mono λv V1 l1 ⟨r1,hv,h1⟩=>⟨r1,hv,?_⟩)
 refine(K09 (h.lo.le l1) (k.hi.le l1) (by omega) (by omega)).mono λv V2 l2 ⟨r2,hv,h2⟩=>⟨r2,hv,?_⟩
 have L2:=View.le_trans l1 l2
 refine(K09 (h.hi.le L2) (k.lo.le L2) (by omega) (by omega)).mono λv V3 l3 ⟨r3,hv,h3⟩=>⟨r3,hv,?_⟩
 have L3:=View.le_trans L2 l3
 refine(K09 (h.hi.le L3) (k.hi.le L3) (by omega) (by omega)).mono λv V4 l4 ⟨r4,hv,h4⟩=>⟨r4,hv,λb1 V5 l5 _ hb1 => ?_⟩
 have g1:=h1.le (View.le_trans l2 (View.le_trans l3 l4))
 have g2:=h2.le (View.le_trans l3 l4)
 have g3:=h3.le l4
 refine(p0p (A0w (g1.le l5) (g2.le l5) (g3.le l5) (h4.le l5) hb1) (by simp) (by simp) hp40).mono λv V6 l6 ⟨r5,hv,h5⟩=>⟨r5,hv,λb2 V7 l7 _ hb2 => ?_⟩
 have L7:=View.le_trans l5 (View.le_trans l6 l7)
 exact(M0i (A0w (g1.le L7) (g2.le L7) (g3.le L7) (h4.le L7) hb2) (by simp) (by simp) hp40).mono λv V8 l8 ⟨r6,hv,h6⟩=>⟨r6,hv,_,rfl,h5.le (View.le_trans l7 l8),h6⟩
theorem a0l:18442240474082181120=q03 (-(infR:Int)):=by decide
theorem B0w:infR=q03 (infR:Int):=by decide
theorem i09{V:View}{s:SetV}{e:Es}(h:EsAt V s e){S:Nat}(he:P06 e S)(hS:S<=2^30):a00 prog w0x #[s.val] V λv _=>v=(Sk.v e.span).val:=by
 have a:=he.1; have b:=he.2
 have il:=h.lo.inf
 have ih:=h.hi.inf
 refine Z0u s V _ (s0w.mono λv V1 l1 hv=>⟨_,hv,g0p.mono λv V2 l2 hv=>⟨_,hv,λh1 => ?_,λh1 => ?_⟩⟩)
 . have h1:e.lo.inf=0:=by rw[<-il]; simpa using h1
   refine(Q0y (h.lo.num.le (View.le_trans l1 l2)) (by omega)).mono λv V3 l3 hv=>⟨_,hv,λh2 => ?_,λh2 => ?_⟩
   . have h2:e.hi.inf=0:=by rw[<-ih]; simpa using h2
     refine(o0p (h.hi.num.le (View.le_trans l1 (View.le_trans l2 l3))) (by omega)).mono λv V4 l4 hv=>⟨_,hv,?_⟩
     unfold Es.span Sk.v; rw[if_pos h1,if_pos h2]; rfl
   . have h2:e.hi.inf≠0:=by rw[<-ih]; simpa using h2
     unfold Es.span Sk.v; rw[if_pos h1,if_neg h2,<-B0w]; rfl
 . have h1:e.lo.inf≠0:=by rw[<-il]; simpa using h1
   refine⟨λh2 => ?_,λh2 => ?_⟩
   . have h2:e.hi.inf=0:=by rw[<-ih]; simpa using h2
     refine(o0p (h.hi.num.le (View.le_trans l1 l2)) (by omega)).mono λv V4 l4 hv=>⟨_,hv,?_⟩
     unfold Es.span Sk.v; rw[if_neg h1,if_pos h2,<-a0l]; rfl
   . have h2:e.hi.inf≠0:=by rw[<-ih]; simpa using h2
     unfold Es.span Sk.v; rw[if_neg h1,if_neg h2,<-B0w,<-a0l]
theorem D0v{z:Cq}{A B:Int}{D:Nat}(h:Rep z A B D):Rep ⟨z.re,0⟩ A 0 D:=⟨h.pos,h.re,by simp[Rat.div_def]⟩
theorem F12{z:Cq}{A B:Int}{D:Nat}(h:Rep z A B D):Rep ⟨z.im,0⟩ B 0 D:=⟨h.pos,h.im,by simp[Rat.div_def]⟩
theorem K14(z:Cq):(⟨z.re,0⟩:Cq).sz<=z.sz+1 :=
 (D0v z.canon.rep).sz (by have:=z.szA; omega) (by rw[Int.natAbs_zero,z0e]; omega) (by have:=z.szD; omega)
theorem L14(z:Cq):(⟨z.im,0⟩:Cq).sz<=z.sz+1 :=
 (F12 z.canon.rep).sz (by have:=z.szB; omega) (by rw[Int.natAbs_zero,z0e]; omega) (by have:=z.szD; omega)
theorem C0m{V:View}{x:NumV}{z:Cq}(h:K05 V x z)(hz:z.sz<=2^40):a00 prog Z12 #[x.val] V λv V'=>∃r:NumV,v=r.val/\K05 V' r ⟨z.re,0⟩:=by
 have zA:=Cq.wA hz; have zB:=Cq.wB hz; have zD:=Cq.wD hz
 refine n10 x V _ ((B03 h).mono λv V1 l1 ⟨d,hv,hd⟩=>⟨d,hv,?_⟩)
 exact(g06 (h.re.le l1) (k03.zero V1) hd (D0v z.canon.rep) (by omega) (by rw[Int.natAbs_zero,U08]; omega) (by omega)).mono λv V2 _ ⟨r,hv,hr⟩=>⟨r,hv,r,rfl,hr⟩
theorem D0m{V:View}{x:NumV}{z:Cq}(h:K05 V x z)(hz:z.sz<=2^40):a00 prog b13 #[x.val] V λv V'=>∃r:NumV,v=r.val/\K05 V' r ⟨z.im,0⟩:=by
 have zA:=Cq.wA hz; have zB:=Cq.wB hz; have zD:=Cq.wD hz
 refine o10 x V _ ((B03 h).mono λv V1 l1 ⟨d,hv,hd⟩=>⟨d,hv,?_⟩)
 exact(g06 (h.im.le l1) (k03.zero V1) hd (F12 z.canon.rep) (by omega) (by rw[Int.natAbs_zero,U08]; omega) (by omega)).mono λv V2 _ ⟨r,hv,hr⟩=>⟨r,hv,r,rfl,hr⟩
theorem q0p{V:View}{x:Nat}(h:okW x):a00 prog k0u #[.float .f64 x] V λv _=>v = .float .f64 (q03 (key x)):=by
 have z0:okW 0:=⟨by decide,by decide⟩
 have k0:key 0=0:=by decide
 refine C0s x V _ ⟨λhc => ?_,λhc => ?_⟩
 . rw[e0m h z0,k0]at hc
   have hc:key x=0:=by simpa using hc
   rw[hc]; rfl
 . rw[e0m h z0,k0]at hc
   have hc:¬key x=0:=by simpa using hc
   have:q03 (key x)=x:=O10 h.1 (by rintro rfl; exact hc (by decide))
   rw[this]
theorem T0y{V:View}{s:Sk}(h:s.ok):a00 prog f0u #[s.v.val] V λv _=>v=s.neg.v.val:=by
 have a:=D0f (okK h.hi); have b:=D0f (okK h.lo)
 refine D0s s.v V _ ((q0p a.1).mono λv V1 _ hv=>⟨_,hv,(q0p b.1).mono λv V2 _ hv=>⟨_,hv,?_⟩⟩)
 rw[a.2,b.2,keyK h.hi,keyK h.lo]; rfl
theorem z0t{V:View}{s t:Sk}(h:s.ok)(k:t.ok):a00 prog E0x #[s.v.val,t.v.val] V λv _=>v=(s.hull t).v.val:=by
 refine S0u s.v t.v V _ ⟨n0g h.lo k.lo,n0g h.hi k.hi,?_⟩
 show(SpV.mk (fmin .f64 (q03 s.lo) (q03 t.lo)) (fmax .f64 (q03 s.hi) (q03 t.hi))).val=_
 rw[W0v h.lo k.lo,U0v h.hi k.hi]; rfl
theorem P0c{V:View}{s:Sk}(h:s.ok):a00 prog u0x #[s.v.val] V λv V'=>∃r:SetV,v=r.val/\EsAt V' r s.set:=by
 refine T0u s.v V _ ((z0w (okK h.lo)).mono λv V1 _ ⟨a,hv,ha⟩=>⟨a,hv,(z0w (okK h.hi)).mono λv V2 l2 ⟨b,hv,hb⟩=>⟨b,hv,_,rfl,?_,?_⟩⟩)
 . rw[keyK h.lo]at ha; exact ha.le l2
 . rw[keyK h.hi]at hb; exact hb
theorem o06{s:Sk}(h:s.ok):P06 s.set 2100:=⟨s0v h.lo,s0v h.hi⟩
theorem P11{V:View}(b:BoxV):a00 prog d13 #[b.val] V λv _=>v = .complex .f64 b.re.lo b.im.lo:=q10 b V _ rfl
theorem Q11{V:View}(b:BoxV):a00 prog e13 #[b.val] V λv _=>v = .complex .f64 b.re.hi b.im.hi:=u10 b V _ rfl
theorem b0l{e f:Es}{S:Nat}(he:P06 e S)(hf:P06 f S):P06 (e.add f) (2*S+1):=by
 have a:=he.1; have b:=he.2; have c:=hf.1; have d:=hf.2
 have h1:=M06 e.lo f.lo; have h2:=M06 e.hi f.hi
 exact⟨show(e.lo.add f.lo).num.sz<=_ by omega,show(e.hi.add f.hi).num.sz<=_ by omega⟩
theorem c0l{e:Es}{S:Nat}(he:P06 e S):P06 e.neg S:=by
 refine⟨?_,?_⟩
 . show e.hi.neg.num.sz<=S; rw[j0b]; exact he.2
 . show e.lo.neg.num.sz<=S; rw[j0b]; exact he.1
theorem Q0c{e f:Es}{S:Nat}(he:P06 e S)(hf:P06 f S):P06 (e.mul f) (2*S+1):=by
 have hp:=k0r he hf
 exact⟨u0v (by unfold Es.prods; simp) hp,u0v (by unfold Es.prods; simp) hp⟩
theorem C07{V:View}{b c:Bk}(h:b.ok)(k:c.ok):a00 prog J0z #[b.v.val,c.v.val] V λv _=>v=(b.mul c).v.val:=by
 have s1:=o06 h.re; have s2:=o06 h.im; have s3:=o06 k.re; have s4:=o06 k.im
 refine t0y b.v c.v V _ ((P0c h.re).mono λv V1 l1 ⟨p,hv,hp⟩=>⟨p,hv,?_⟩)
 refine(P0c h.im).mono λv V2 l2 ⟨q,hv,hq⟩=>⟨q,hv,?_⟩
 refine(P0c k.re).mono λv V3 l3 ⟨r,hv,hr⟩=>⟨r,hv,?_⟩
 refine(P0c k.im).mono λv V4 l4 ⟨s,hv,hs⟩=>⟨s,hv,?_⟩
 replace hp:=hp.le (View.le_trans l2 (View.le_trans l3 l4)); replace hq:=hq.le (View.le_trans l3 l4); replace hr:=hr.le l4
 refine(O0c hp hr s1 s3 (by omega)).mono λv V5 l5 ⟨x5,hv,h5⟩=>⟨x5,hv,?_⟩
 replace hp:=hp.le l5; replace hq:=hq.le l5; replace hr:=hr.le l5; replace hs:=hs.le l5
 refine(O0c hq hs s2 s4 (by omega)).mono λv V6 l6 ⟨x6,hv,h6⟩=>⟨x6,hv,?_⟩
 replace hp:=hp.le l6; replace hq:=hq.le l6; replace hr:=hr.le l6; replace hs:=hs.le l6; replace h5:=h5.le l6
 refine(s0k h6).mono λv V7 l7 ⟨x7,hv,h7⟩=>⟨x7,hv,?_⟩
 replace hp:=hp.le l7; replace hq:=hq.le l7; replace hr:=hr.le l7; replace hs:=hs.le l7; replace h5:=h5.le l7
 refine(N0c h5 h7 (Q0c s1 s3) (c0l (Q0c s2 s4)) (by omega)).mono λv V8 l8 ⟨x8,hv,h8⟩=>⟨x8,hv,?_⟩
 replace hp:=hp.le l8; replace hq:=hq.le l8; replace hr:=hr.le l8; replace hs:=hs.le l8
 refine(i09 h8 (b0l (Q0c s1 s3) (c0l (Q0c s2 s4))) (by omega)).mono λv V9 l9 hv=>⟨_,hv,?_⟩
 replace hp:=hp.le l9; replace hq:=hq.le l9; replace hr:=hr.le l9; replace hs:=hs.le l9
 refine(O0c hp hs s1 s4 (by omega)).mono λv V10 l10 ⟨x10,hv,h10⟩=>⟨x10,hv,?_⟩
 replace hq:=hq.le l10; replace hr:=hr.le l10
 refine(O0c hq hr s2 s3 (by omega)).mono λv V11 l11 ⟨x11,hv,h11⟩=>⟨x11,hv,?_⟩
 refine(N0c (h10.le l11) h11 (Q0c s1 s4) (Q0c s2 s3) (by omega)).mono λv V12 l12 ⟨x12,hv,h12⟩=>⟨x12,hv,?_⟩
 exact(i09 h12 (b0l (Q0c s1 s4) (Q0c s2 s3)) (by omega)).mono λv V13 _ hv=>⟨_,hv,rfl⟩
theorem Bk.mul_ok(b c:Bk):(b.mul c).ok:=⟨l0b _,l0b _⟩
theorem c0b{V:View}{b:Bk}(h:b.ok):a00 prog n0x #[b.v.val] V λv _=>v=b.conj.v.val :=
 W0u b.v V _ ((T0y h.im).mono λ_ _ _ hv=>⟨_,hv,rfl⟩)
theorem N0i{V:View}{b c:Bk}(h:b.ok)(k:c.ok):a00 prog p0x #[b.v.val,c.v.val] V λv _=>v=(b.hull c).v.val :=
 X0u b.v c.v V _ ((z0t h.re k.re).mono λ_ _ _ hv=>⟨_,hv,(z0t h.im k.im).mono λ_ _ _ hv=>⟨_,hv,rfl⟩⟩)
theorem S11{V:View}{b:Nat}{r1 r2:BdV}{e1 e2:Eb}(h1:BdAt V r1 e1)(h2:BdAt V r2 e2)
 (hb:V b=some #[.int .i64 r1.inf,.bool r1.x.re.neg,r1.x.re.mag.v,.bool r1.x.im.neg,r1.x.im.mag.v,r1.x.under.v,.int .i64 r2.inf,.bool r2.x.re.neg,r2.x.re.mag.v,.bool r2.x.im.neg,r2.x.im.mag.v,r2.x.under.v]) :
 x0t V ⟨some ⟨b,0,none⟩,2,2⟩ [e1,e2] :=
 G02 (o:=r1.val.cells.toList++(r2.val.cells.toList++[])) hb ⟨_,_,rfl,rfl,⟨r1,rfl,h1⟩,_,_,rfl,rfl,⟨r2,rfl,h2⟩,rfl⟩ rfl
theorem d0b{V:View}(x y:Nat):a00 prog Q0r #[.float .f64 x,.float .f64 y] V λv _=>v = .bool (decide (x=y)):=by
 refine y0q x y V _ ⟨_,G0e x,_,G0e y,?_⟩
 congr 1
 by_cases h:x=y
 . subst h; simp
 . have:¬(x:Int)=y:=by omega
   simp[h,this]
theorem c0e{V:View}{s t:Sk}(h:s.ok)(k:t.ok):a00 prog o0n #[s.v.val,t.v.val] V λv _=>v = .bool (s.isIn t):=by
 refine S0l s.v t.v V _ ⟨λhc => ?_,λhc => ?_⟩
 . have hc:decide (t.lo<=s.lo)=true:=by rw[<-leK k.lo h.lo]; exact hc
   show Value.bool ((FloatKind.f64.format.order (q03 s.hi) (q03 t.hi)==some .lt)||(FloatKind.f64.format.order (q03 s.hi) (q03 t.hi)==some .eq))=_
   rw[leK h.hi k.hi]; unfold Sk.isIn; rw[hc]; rfl
 . have hc:decide (t.lo<=s.lo)=false:=by rw[<-leK k.lo h.lo]; exact hc
   unfold Sk.isIn; rw[hc]; rfl
theorem T11{fs : List Field}{s1 s2 : TypeId}{o1 o2 : Nat}(h : fs.map (fun f => (f.name == "_", f.type, f.offset)) = [(false, s1, o1), (false, s2, o2)]) :
 ∃ f1 f2, fs = [f1, f2] ∧ f1.name ≠ "_" ∧ f1.type = s1 ∧ f1.offset = o1 ∧ f2.name ≠ "_" ∧ f2.type = s2 ∧ f2.offset = o2 := by
 match fs with
 | []=>simp at h
 | [_]=>simp at h
 | _::_::_::_=>simp at h
 | [f1,f2] =>
   simp only[List.map_cons,List.map_nil,List.cons.injEq,Prod.mk.injEq,and_true]at h
   obtain⟨⟨a,b,c⟩,a',b',c'⟩:=h
   exact⟨f1,f2,rfl,by simpa using a,b,c,by simpa using a',b',c'⟩
theorem O0i{P : Program}{w : World}{d : Nat}{xs ys : Array Value}{f1 f2 : Field}{a1 b1 a2 b2 : Value}{r1 r2 : Bool}(h1 : f1.name ≠ "_")(h2 : f2.name ≠ "_")
 (p1:(part f1.type xs f1.offset).run P w = .ok a1 w) (q1:(part f1.type ys f1.offset).run P w = .ok b1 w) (p2:(part f2.type xs f2.offset).run P w = .ok a2 w) (q2:(part f2.type ys f2.offset).run P w = .ok b2 w)
 (e1:(Op.equalIn d f1.type a1 b1).run P w = .ok r1 w) (e2:(Op.equalIn d f2.type a2 b2).run P w = .ok r2 w):(Op.eqFields d xs ys [f1,f2]).run P w = .ok (r1&&r2) w:=by
 simp only[Op.eqFields,Sem.run_bind,Sem.run_ite]
 rw[if_pos h1,p1]
 simp only[Result.andThen_ok]
 rw[q1]
 simp only[Result.andThen_ok]
 rw[e1]
 simp only[Result.andThen_ok]
 cases r1 with
 | false=>simp
 | true =>
   rw[if_neg (by decide),if_pos h2,p2]
   simp only[Result.andThen_ok]
   rw[q2]
   simp only[Result.andThen_ok]
   rw[e2]
   simp only[Result.andThen_ok]
   cases r2<;>simp
theorem Z0g{P:Program}{w:World}(d:Nat)(t:TypeId)(a b:Nat)(h:P.underlying t=some (.float .f64)):(Op.equalIn (d+1) t (.float .f64 a) (.float .f64 b)).run P w = .ok (FloatKind.f64.format.order a b==some .eq) w:=by
 simp[Op.equalIn,run_underlying h]; rfl
def E0m:TypeId:=48
def TBox:TypeId:=50
def s0p:TypeId:=46
theorem U11{w:World}(d:Nat)(s t:SpV):(Op.equalIn (d+2) E0m s.val t.val).run prog w = .ok ((FloatKind.f64.format.order s.lo t.lo==some .eq)&&(FloatKind.f64.format.order s.hi t.hi==some .eq)) w:=by
 have hm : (prog.fieldsOf E0m).toList.map (fun f => (f.name == "_", f.type, f.offset)) = [(false, s0p, 0), (false, s0p, 1)] := by kernel_rfl
 have hu:prog.underlying E0m=some (.struct (prog.fieldsOf E0m)):=by kernel_rfl
 have hi:prog.underlying s0p=some (.float .f64):=by kernel_rfl
 have hs:prog.stoodInHeld E0m=false:=by kernel_rfl
 have hz:d07 prog s0p=some 1:=by kernel_rfl
 have ha:l0l prog s0p=some false:=by kernel_rfl
 have hp:∀(cs:Array Value) (off:Nat) (v:Value),cs[off]?=some v->(part s0p cs off).run prog w = .ok v w:=by
  intro cs off v h
  simp[part,f0f ha,l05 hz,h]
 obtain⟨f1,f2,e,n1,t1,o1,n2,t2,o2⟩:=T11 hm
 show(Op.equalIn (d+1+1) E0m (.agg #[.float .f64 s.lo,.float .f64 s.hi]) (.agg #[.float .f64 t.lo,.float .f64 t.hi])).run _ w=_
 rw[run_equalIn_agg w (d+1) _ _ _ hu hs,e]
 refine O0i n1 n2 (a1 := .float .f64 s.lo) (b1 := .float .f64 t.lo) (a2 := .float .f64 s.hi) (b2 := .float .f64 t.hi) ?_ ?_ ?_ ?_ ?_ ?_
 . rw[t1,o1]; exact hp _ _ _ rfl
 . rw[t1,o1]; exact hp _ _ _ rfl
 . rw[t2,o2]; exact hp _ _ _ rfl
 . rw[t2,o2]; exact hp _ _ _ rfl
 . rw[t1]; exact Z0g d _ _ _ hi
 . rw[t2]; exact Z0g d _ _ _ hi
theorem S13{a b:Int}(ha:inK a)(hb:inK b):(FloatKind.f64.format.order (q03 a) (q03 b)==some .eq)=decide (a=b):=by
 rw[e0m (okK ha) (okK hb),keyK ha,keyK hb]
theorem T13{b c:Bk}(hb:b.ok)(hc:c.ok):Go.Vc.EqAt prog TBox b.v.val c.v.val (decide (b=c)):=by
 intro w
 have hm : (prog.fieldsOf TBox).toList.map (fun f => (f.name == "_", f.type, f.offset)) = [(false, E0m, 0), (false, E0m, 2)] := by kernel_rfl
 have hu:prog.underlying TBox=some (.struct (prog.fieldsOf TBox)):=by kernel_rfl
 have hs:prog.stoodInHeld TBox=false:=by kernel_rfl
 have hz:d07 prog E0m=some 2:=by kernel_rfl
 have ha:l0l prog E0m=some true:=by kernel_rfl
 have hp:∀(cs:Array Value) (off:Nat) (v:Array Value),cs.extract off (off+2)=v->(part E0m cs off).run prog w = .ok (.agg v) w:=by
  intro cs off v h
  simp[part,f0f ha,l05 hz,h]
 obtain⟨f1,f2,e,n1,t1,o1,n2,t2,o2⟩:=T11 hm
 show(binOp .eql TBox (.agg #[.float .f64 b.v.re.lo,.float .f64 b.v.re.hi,.float .f64 b.v.im.lo,.float .f64 b.v.im.hi]) (.agg #[.float .f64 c.v.re.lo,.float .f64 c.v.re.hi,.float .f64 c.v.im.lo,.float .f64 c.v.im.hi])).run _ w=_
 rw[run_eql_struct,run_equalIn_agg w 9999 _ _ _ hu hs,e]
 rw[O0i n1 n2 (a1:=b.v.re.val) (b1:=c.v.re.val) (a2:=b.v.im.val) (b2:=c.v.im.val) (by rw[t1,o1]; exact hp _ _ _ rfl) (by rw[t1,o1]; exact hp _ _ _ rfl) (by rw[t2,o2]; exact hp _ _ _ rfl) (by rw[t2,o2]; exact hp _ _ _ rfl)
  (by rw[t1]; exact U11 9997 _ _) (by rw[t2]; exact U11 9997 _ _)]
 simp only[Result.andThen_ok]
 refine congrArg (λb=>Result.ok (Value.bool b) w) ?_
 show(((FloatKind.f64.format.order (q03 b.re.lo) (q03 c.re.lo)==some .eq)&&(FloatKind.f64.format.order (q03 b.re.hi) (q03 c.re.hi)==some .eq))&&((FloatKind.f64.format.order (q03 b.im.lo) (q03 c.im.lo)==some .eq)&&(FloatKind.f64.format.order (q03 b.im.hi) (q03 c.im.hi)==some .eq)))=_
 rw[S13 hb.re.lo hc.re.lo,S13 hb.re.hi hc.re.hi,S13 hb.im.lo hc.im.lo,S13 hb.im.hi hc.im.hi]
 by_cases h:b=c
 . subst h; simp
 . rw[decide_eq_false h]
   refine Bool.eq_false_iff.2 λhh=>h ?_
   simp only[Bool.and_eq_true,decide_eq_true_eq]at hh
   obtain⟨⟨h1,h2⟩,h3,h4⟩:=hh
   obtain⟨⟨a1,a2⟩,⟨a3,a4⟩⟩:=b
   obtain⟨⟨c1,c2⟩,⟨c3,c4⟩⟩:=c
   simp only at h1 h2 h3 h4
   rw[h1,h2,h3,h4]
theorem l0r{V:View}{b c:Bk}(hb:b.ok)(hc:c.ok):a00 prog m0x #[b.v.val,c.v.val] V λv _=>v = .bool (decide (b=c)):=U0u b.v c.v V _ ⟨_,T13 hb hc,rfl⟩
theorem w0v{V:View}(b:BoxV):a00 prog G0z #[b.val,b.val] V λv _=>v = .bool true:=by
 refine s0y b b V _ ((P11 b).mono λv V1 _ hv=>⟨CxV.mk _ _,hv,(d0b _ _).mono λv V2 _ hv=>⟨_,hv,λ_ => ?_,λh=>absurd h (by simp)⟩⟩)
 refine(P11 b).mono λv V3 _ hv=>⟨CxV.mk _ _,hv,(d0b _ _).mono λv V4 _ hv=>⟨_,hv,λ_ => ?_,λh=>absurd h (by simp)⟩⟩
 refine(Q11 b).mono λv V5 _ hv=>⟨CxV.mk _ _,hv,(d0b _ _).mono λv V6 _ hv=>⟨_,hv,λ_ => ?_,λh=>absurd h (by simp)⟩⟩
 exact(Q11 b).mono λv V7 _ hv=>⟨CxV.mk _ _,hv,(d0b _ _).mono λv V8 _ hv=>⟨_,hv,by simp⟩⟩
theorem P0i{V:View}{s t:Sk}(h:s.ok)(k:t.ok):a00 prog K0x #[s.v.val,t.v.val] V λv _=>v=(Sk.v (s.set.add t.set).span).val:=by
 refine P0u s.v t.v V _ ((P0c h).mono λv V1 l1 ⟨a,hv,ha⟩=>⟨a,hv,(P0c k).mono λv V2 l2 ⟨b,hv,hb⟩=>⟨b,hv,?_⟩⟩)
 refine(N0c (ha.le l2) hb (o06 h) (o06 k) (by omega)).mono λv V3 l3 ⟨c,hv,hc⟩=>⟨c,hv,?_⟩
 exact(i09 hc (b0l (o06 h) (o06 k)) (by omega)).mono λv V4 _ hv=>⟨_,hv,rfl⟩
theorem Q0i{V:View}{s t:Sk}(h:s.ok)(k:t.ok):a00 prog L0x #[s.v.val,t.v.val] V λv _=>v=(Sk.v (s.set.add t.set.neg).span).val:=by
 refine Q0u s.v t.v V _ ((P0c h).mono λv V1 l1 ⟨a,hv,ha⟩=>⟨a,hv,(P0c k).mono λv V2 l2 ⟨b,hv,hb⟩=>⟨b,hv,?_⟩⟩)
 refine(s0k hb).mono λv V3 l3 ⟨d,hv,hd⟩=>⟨d,hv,?_⟩
 refine(N0c (ha.le (View.le_trans l2 l3)) hd (o06 h) (c0l (o06 k)) (by omega)).mono λv V4 l4 ⟨c,hv,hc⟩=>⟨c,hv,?_⟩
 exact(i09 hc (b0l (o06 h) (c0l (o06 k))) (by omega)).mono λv V5 _ hv=>⟨_,hv,rfl⟩
theorem y08{V:View}{b c:Bk}(h:b.ok)(k:c.ok):a00 prog k10 #[b.v.val,c.v.val] V λv _=>v=(b.add c).v.val :=
 p0y b.v c.v V _ ((P0i h.re k.re).mono λ_ _ _ hv=>⟨_,hv,(P0i h.im k.im).mono λ_ _ _ hv=>⟨_,hv,rfl⟩⟩)
theorem t0k{V:View}{b c:Bk}(h:b.ok)(k:c.ok):a00 prog m10 #[b.v.val,c.v.val] V λv _=>v=(b.sub c).v.val :=
 q0y b.v c.v V _ ((Q0i h.re k.re).mono λ_ _ _ hv=>⟨_,hv,(Q0i h.im k.im).mono λ_ _ _ hv=>⟨_,hv,rfl⟩⟩)
theorem W11(x m k:Nat):(if decide (sgI x m<0)=true then -((m*2^k:Nat):Int)else((m*2^k:Nat):Int))=sgI x (m*2^k):=by
 by_cases z:m=0
 . subst z; rw[Nat.zero_mul]; unfold sgI; split<;>split<;>rfl
 . have hp:0<2^k:=Nat.pow_pos (by omega)
   have:0<m*2^k:=Nat.mul_pos (by omega) hp
   unfold sgI
   by_cases c:2^63<=x
   . rw[if_pos c,if_pos c,if_pos (by rw[decide_eq_true_iff]; omega)]
   . rw[if_neg c,if_neg c,if_neg (by rw[decide_eq_true_iff]; omega)]
theorem O0k{V:View}{x:Nat}(h:finW x):a00 prog X0p #[.float .f64 x] V λv V'=>∃r:NumV,v=r.val/\QAt V' r ⟨fq x,0⟩:=by
 have h64:=h.1
 have hfl:fld x<2048:=by unfold fld; omega
 have hu:=B0j x
 have hml:=t0m x
 have hp52:(2:Int)^(min (Int.toNat 52) u64.bits)=((2^52:Nat):Int):=by decide
 have hp63:(2:Int)^(min (Int.toNat 63) u64.bits)=((2^63:Nat):Int):=by decide
 have e1:i64.wrap (u64.wrap (BitVec.toNat ((BitVec.ofInt u64.bits (Int.fdiv (x:Int) (2^(min (Int.toNat 52) (u64.bits))))) &&& (BitVec.ofInt u64.bits 2047))))=(fld x:Int):=by
  have:=t0g (x:=x / 2^52) (m:=2047) (by omega) (by omega)
  have e:x / 2^52 &&& 2047=fld x:=Nat.and_two_pow_sub_one_eq_mod (x / 2^52) 11
  rw[e]at this
  rw[hp52,L0i]
  rw[show(((2047:Nat)):Int)=2047 from rfl]at this
  rw[this,i64w (by omega) (by omega)]
 have e2:u64.wrap (BitVec.toNat ((BitVec.ofInt u64.bits (x:Int)) &&& (BitVec.ofInt u64.bits 4503599627370495)))=((x%2^52:Nat):Int):=by
  have:=t0g (x:=x) (m:=4503599627370495) (by omega) (by omega)
  have e:x &&& 4503599627370495=x%2^52:=Nat.and_two_pow_sub_one_eq_mod x 52
  rw[e]at this
  exact this
 have e3:((Int.fdiv (x:Int) (2^(min (Int.toNat 63) (u64.bits))):Int)==1)=decide (2^63<=x):=by
  rw[hp63,L0i]
  by_cases c:2^63<=x
  . have:x / 2^63=1:=by omega
    rw[this,decide_eq_true c]; rfl
  . have:x / 2^63=0:=by omega
    rw[this,decide_eq_false c]; rfl
 refine L0n x V _ ⟨x,G0e x,?_⟩
 rw[e1,e2,e3]
 have hw:∀ {V1:View} {s:Sl} {n:Nat},L00 V1 s n->n=mant x->a00 prog J0a #[.bool (decide (2^63<=x)),s.v] V1 λv V'=>∃r:WhV,v=r.val/\k03 V' r (sgI x (mant x)):=by
  intro V1 s n hs hn
  refine(S03 (decide (2^63<=x)) hs).mono λv V2 _ ⟨r,hv,hr⟩=>⟨r,hv,?_⟩
  subst hn
  unfold sgI
  by_cases c:2^63<=x
  . rw[decide_eq_true c]at hr; rw[if_pos c]; simpa using hr
  . rw[decide_eq_false c]at hr; rw[if_neg c]; simpa using hr
 have low:∀ {V:View} {r2:WhV} {k:Nat},k03 V r2 (sgI x (mant x))->(k:Int)=1075-(up1 x:Int)->∀(b2:Nat) (V6:View),View.le V V6->View.Fin V6->V6 b2=some #[.int .u32 1] ->
  a00 prog a0i #[(Sl.mk (some (Addr.mk b2 0 none)) 1 1).v,.int .i64 (k:Int)] V6 λv V7=>∃r5:Sl,v=r5.v/\a00 prog E0l #[r2.val,(WhV.mk false (Sl.mk none 0 0)).val,r5.v] V7 λv V8=>∃r6:NumV,v=r6.val/\∃r:NumV,r6.val=r.val/\QAt V8 r ⟨fq x,0⟩:=by
  intro V r2 k hr hk b2 V6 l6 _ hb2
  refine(Z05 (n:=k) (L00.lit (n:=1) hb2 (by omega) (by omega)) (Nat.le_trans K11 (by decide)) (by omega)).mono λv V7 l7 ⟨r5,hv,h5⟩=>⟨r5,hv,?_⟩
  rw[Nat.one_mul]at h5
  have R:Rep ⟨fq x,0⟩ (sgI x (mant x)) 0 (2^k):=by
   refine⟨b0w k,?_,w0t _⟩
   have:=i0r (x:=x) (k:=k) (n:=0) h64 (by omega)
   rw[Nat.pow_zero,Nat.mul_one]at this
   exact this
  have b2k:=H07 k
  refine(k06 (hr.le (View.le_trans l6 l7)) (k03.zero V7) h5 R ?_ (by rw[Int.natAbs_zero,U08]; omega) (p0d (by omega))).mono λv V8 _ ⟨r6,hv,h6⟩=>⟨r6,hv,r6,rfl,h6⟩
  rw[u0m]; exact wn64 (by omega)
 refine⟨λhc => ?_,λhc => ?_⟩
 . have hc:((fld x:Nat):Int)=0:=by simpa using hc
   have hf0:fld x=0:=by omega
   have em:x%2^52=mant x:=by unfold mant; rw[if_pos hf0]
   have eu:up1 x=1:=by unfold up1; rw[if_pos hf0]
   rw[em]
   refine(A07 (n:=((mant x:Nat):Int)) (by omega) (by omega)).mono λv V1 _ ⟨s,hv,hs⟩=>⟨s,hv,?_⟩
   refine(hw hs (by omega)).mono λv V2 _ ⟨r,hv,hr⟩=>⟨r,hv,λg=>absurd g (by decide),λ_ => ?_⟩
   have w:i64.wrap (1075-1)=((1074:Nat):Int):=by decide
   rw[w]
   exact low (k:=1074) hr (by omega)
 . have hf0:fld x≠0:=λe=>by rw[e]at hc; simp at hc
   have eu:up1 x=fld x:=by unfold up1; rw[if_neg hf0]
   have e4:u64.wrap (BitVec.toNat ((BitVec.ofInt u64.bits ((x%2^52:Nat):Int)) ||| (BitVec.ofInt u64.bits 4503599627370496)))=((mant x:Nat):Int):=by
    have:=i0p (x:=x%2^52) (m:=4503599627370496) (by omega) (by omega)
    have hor:=Nat.two_pow_add_eq_or_of_lt (i:=52) (b:=x%2^52) (by omega) 1
    have e:x%2^52 ||| 4503599627370496=mant x:=by
     rw[Nat.or_comm]
     have h1:2^52*1=4503599627370496:=by decide
     rw[h1]at hor
     rw[<-hor]; unfold mant; rw[if_neg (by omega)]; omega
    rw[e]at this
    exact this
   rw[e4]
   refine(A07 (n:=((mant x:Nat):Int)) (by omega) (by omega)).mono λv V1 _ ⟨s,hv,hs⟩=>⟨s,hv,?_⟩
   refine(hw hs (by omega)).mono λv V2 _ ⟨r,hv,hr⟩=>⟨r,hv,λhg => ?_,λhg => ?_⟩
   . have hg:((fld x:Nat):Int)>=1075:=by simpa using hg
     obtain⟨k,hk⟩:∃k:Nat,fld x=1075+k:=⟨fld x-1075,by omega⟩
     have w:i64.wrap (((fld x:Nat):Int)-1075)=(k:Int):=by rw[i64w (by omega) (by omega)]; omega
     rw[w]
     have hr2:=hr.2
     rw[u0m]at hr2
     refine(Z05 (n:=k) hr2 (Nat.le_trans (wn64 (by omega)) (by decide)) (by omega)).mono λv V3 l3 ⟨r3,hv,h3⟩=>⟨r3,hv,?_⟩
     refine(S03 r.neg h3).mono λv V4 l4 ⟨r4,hv,h4⟩=>⟨r4,hv,λb V5 l5 _ hb=>⟨_,rfl,?_⟩⟩
     rw[hr.1,W11]at h4
     have e5:fq x=((sgI x (mant x*2^k):Int):Rat):=by
      have:=i0r (x:=x) (k:=0) (n:=k) h64 (by omega)
      rw[this,Nat.pow_zero,Rat.div_def]
      have:((1:Nat):Rat)⁻¹=1:=by decide +kernel
      rw[this,Rat.mul_one]
     have q:=n0a (sgI x (mant x*2^k))
     rw[<-e5]at q
     exact⟨by rw[q.1]; exact h4.le l5,by rw[q.2.1]; exact k03.zero _,by rw[q.2.2]; exact L00.lit (n:=1) hb (by omega) (by omega)⟩
   . have hg:¬((fld x:Nat):Int)>=1075:=by simpa using hg
     obtain⟨k,hk⟩:∃k:Nat,(k:Int)=1075-(fld x:Int):=⟨1075-fld x,by omega⟩
     have w:i64.wrap (1075-((fld x:Nat):Int))=(k:Int):=by rw[i64w (by omega) (by omega)]; omega
     rw[w]
     exact low hr (by omega)
theorem F0m{V:View}{x:Nat}(h:finW x):a00 prog l0s #[.float .f64 x] V λv V'=>∃r:NumV,v = .tuple #[r.val,.int .i64 0]/\QAt V' r ⟨fq x,0⟩:=by
 refine k0q x V _ ((N0k h.1).mono λv V1 _ hv=>⟨_,hv,λhc => ?_,λ_ => ?_⟩)
 . rw[decide_eq_true h.2]at hc; exact absurd hc (by decide)
 . exact(O0k h).mono λv V2 _ ⟨r,hv,hr⟩=>⟨r,hv,r,rfl,hr⟩
theorem G04{V:View}{k:Int}(hk:inK k):a00 prog i10 #[.float .f64 (q03 k)] V λv V'=>∃b:BdV,v=b.val/\BqAt V' b (endE k):=by
 have h:=okK hk
 have hx:=keyK hk
 have whole:∀ {V:View},a00 prog Q09 #[.int .i64 0] V λv V'=>∃r:NumV,v=r.val/\QAt V' r ⟨((0:Int):Rat),0⟩:=Y0b (by omega) (by omega)
 refine l0y (q03 k) V _ ((q0w h.1).mono λv V1 _ hv=>⟨_,hv,λhc => ?_,λhc => ?_⟩)
 . have hc:k=(infR:Int):=by simp only[decide_eq_true_eq]at hc; rw[<-hx]; exact hc.2
   refine whole.mono λv V2 _ ⟨r,hv,hr⟩=>⟨r,hv,_,rfl,?_⟩
   unfold endE; rw[if_pos hc]; exact .zero hr (.inr ⟨rfl,.inl rfl⟩)
 have hc:k≠(infR:Int):=by simp only[decide_eq_false_iff_not]at hc; rw[hx]at hc; exact λe=>hc ⟨h,e⟩
 refine(f0p h.1).mono λv V2 _ hv=>⟨_,hv,λhd => ?_,λhd => ?_⟩
 . have hd:k = -(infR:Int):=by simp only[decide_eq_true_eq]at hd; rw[<-hx]; exact hd.2
   refine whole.mono λv V2 _ ⟨r,hv,hr⟩=>⟨r,hv,_,rfl,?_⟩
   unfold endE; rw[if_neg hc,if_pos hd]; exact .zero hr (.inr ⟨rfl,.inr rfl⟩)
 have hd:k ≠ -(infR:Int):=by simp only[decide_eq_false_iff_not]at hd; rw[hx]at hd; exact λe=>hd ⟨h,e⟩
 have hf:finW (q03 k):=by unfold inK at hk; exact L10 (by omega) (by omega)
 refine(F0m hf).mono λv V3 _ ⟨r,hv,hr⟩=>⟨r,0,hv,?_⟩
 have e:fq (q03 k)=fkq k:=by rw[J14,hx]
 rw[e]at hr
 refine(B07 hr).mono λv V4 _ ⟨b,hv,hb⟩=>⟨b,hv,b,rfl,?_⟩
 unfold endE; rw[if_neg hc,if_neg hd]; exact hb
def bqC(V:View)(x:List Value)(e:Eb):Prop:=∃b:BdV,x=b.val.cells.toList/\BqAt V b e
theorem bqC.le{V V':View}(hle:V.le V')(x:List Value)(e:Eb)(h:bqC V x e):bqC V' x e:=by
 obtain⟨b,e1,hb⟩:=h; exact⟨b,e1,hb.le hle⟩
def a0o(V:View)(s:Sl)(es:List Eb):Prop:=l01 6 bqC V s es
theorem a0o.le{V V':View}(hle:V.le V'){s:Sl}{es:List Eb}(h:a0o V s es):a0o V' s es:=l01.le (bqC.le hle) hle h
theorem d0l{es:List Eb}(h:0<es.length):es.take 1=[es[0]]:=by
 cases es with
 | nil=>simp at h
 | cons e es=>simp
theorem G0m{V:View}{s:Sl}{es:List Eb}(h:a0o V s es)(h0:es≠[])(hn:es.length<=2^32)(hS:∀e∈es,e.num.sz<=2^38) :
 a00 prog U0j #[s.v] V λv V'=>∃b:BdV,v=b.val/\BqAt V' b (Eb.pick (-1) es):=by
 have hl:=h.len
 have h1:1<=es.length:=by
  rcases Nat.eq_zero_or_pos es.length with c|c
  . exact absurd (List.eq_nil_of_length_eq_zero c) h0
  . exact c
 refine p0q s V _ (λ_ x V'=>∃i:Nat,x.t4=((i+1:Nat):Int)/\i+1<=es.length/\BqAt V' x.o3 (Eb.pick (-1) (es.take (i+1)))/\(Eb.pick (-1) (es.take (i+1))).num.sz<=2^38) (λ_ x _=>(es.length-x.t4).toNat) ?_
 obtain⟨hb,x,⟨b0,hx,hb0⟩,_,hh,hs⟩:=l01.get h (t:=0) (by omega) (z:=es[0]) (by simp)
 refine⟨hb,b0,hx▸hh,hs,⟨0,rfl,h1,?_,?_⟩,?_⟩
 . rw[d0l h1]; exact hb0
 . rw[d0l h1]; exact hS _ (List.getElem_mem _)
 rintro⟨t,o2,o3⟩ V2 l2 ⟨i,rfl,hi,ho,hz⟩
 dsimp only at ho hz ⊢
 rw[hl]
 refine⟨λhlt => ?_,λhge => ?_⟩
 . simp only[decide_eq_true_eq]at hlt
   have hi2:i+1<es.length:=by omega
   obtain⟨hb',x',⟨b',hx',hb''⟩,_,hh',hs'⟩:=l01.get (h.le l2) (t:=((i+1:Nat):Int)) (by omega) (z:=es[i+1]) (by rw[Int.toNat_natCast]; simp[hi2])
   rw[hl]at hb'
   refine⟨hb',b',hx'▸hh',hs',?_⟩
   have wi:i64.wrap (((i+1:Nat):Int)+1)=((i+1+1:Nat):Int):=by rw[i64w (by omega) (by omega)]; omega
   have rg:=Eb.cmp_range es[i+1] (Eb.pick (-1) (es.take (i+1)))
   refine(K0i hb'' ho (hS _ (List.getElem_mem _)) hz).mono λv V3 l3 hv=>⟨_,hv,λhc => ?_,λhc => ?_⟩
   . simp only[decide_eq_true_eq]at hc
     refine⟨hb',b',q08 l3 (hx'▸hh'),hs',?_⟩
     rw[wi]
     refine⟨⟨i+1,rfl,by omega,?_,?_⟩,by omega⟩
     . rw[L06 (-1) hi2,if_pos (by omega)]; exact hb''.le l3
     . rw[L06 (-1) hi2,if_pos (by omega)]; exact hS _ (List.getElem_mem _)
   . simp only[decide_eq_false_iff_not]at hc
     rw[wi]
     refine⟨⟨i+1,rfl,by omega,?_,?_⟩,by omega⟩
     . rw[L06 (-1) hi2,if_neg (by omega)]; exact ho.le l3
     . rw[L06 (-1) hi2,if_neg (by omega)]; exact hz
 . simp only[decide_eq_false_iff_not]at hge
   have:i+1=es.length:=by omega
   rw[this,List.take_length]at ho
   exact⟨_,rfl,ho⟩
theorem S0i{V:View}{s:Sl}{es:List Eb}(h:a0o V s es)(h0:es≠[])(hn:es.length<=2^32)(hS:∀e∈es,e.num.sz<=2^38) :
 a00 prog o0f #[s.v] V λv V'=>∃b:BdV,v=b.val/\BqAt V' b (Eb.pick 1 es):=by
 have hl:=h.len
 have h1:1<=es.length:=by
  rcases Nat.eq_zero_or_pos es.length with c|c
  . exact absurd (List.eq_nil_of_length_eq_zero c) h0
  . exact c
 refine E0k s V _ (λ_ x V'=>∃i:Nat,x.t4=((i+1:Nat):Int)/\i+1<=es.length/\BqAt V' x.o3 (Eb.pick 1 (es.take (i+1)))/\(Eb.pick 1 (es.take (i+1))).num.sz<=2^38) (λ_ x _=>(es.length-x.t4).toNat) ?_
 obtain⟨hb,x,⟨b0,hx,hb0⟩,_,hh,hs⟩:=l01.get h (t:=0) (by omega) (z:=es[0]) (by simp)
 refine⟨hb,b0,hx▸hh,hs,⟨0,rfl,h1,?_,?_⟩,?_⟩
 . rw[d0l h1]; exact hb0
 . rw[d0l h1]; exact hS _ (List.getElem_mem _)
 rintro⟨t,o2,o3⟩ V2 l2 ⟨i,rfl,hi,ho,hz⟩
 dsimp only at ho hz ⊢
 rw[hl]
 refine⟨λhlt => ?_,λhge => ?_⟩
 . simp only[decide_eq_true_eq]at hlt
   have hi2:i+1<es.length:=by omega
   obtain⟨hb',x',⟨b',hx',hb''⟩,_,hh',hs'⟩:=l01.get (h.le l2) (t:=((i+1:Nat):Int)) (by omega) (z:=es[i+1]) (by rw[Int.toNat_natCast]; simp[hi2])
   rw[hl]at hb'
   refine⟨hb',b',hx'▸hh',hs',?_⟩
   have wi:i64.wrap (((i+1:Nat):Int)+1)=((i+1+1:Nat):Int):=by rw[i64w (by omega) (by omega)]; omega
   have rg:=Eb.cmp_range es[i+1] (Eb.pick 1 (es.take (i+1)))
   refine(K0i hb'' ho (hS _ (List.getElem_mem _)) hz).mono λv V3 l3 hv=>⟨_,hv,λhc => ?_,λhc => ?_⟩
   . simp only[decide_eq_true_eq]at hc
     refine⟨hb',b',q08 l3 (hx'▸hh'),hs',?_⟩
     rw[wi]
     refine⟨⟨i+1,rfl,by omega,?_,?_⟩,by omega⟩
     . rw[L06 1 hi2,if_pos (by omega)]; exact hb''.le l3
     . rw[L06 1 hi2,if_pos (by omega)]; exact hS _ (List.getElem_mem _)
   . simp only[decide_eq_false_iff_not]at hc
     rw[wi]
     refine⟨⟨i+1,rfl,by omega,?_,?_⟩,by omega⟩
     . rw[L06 1 hi2,if_neg (by omega)]; exact ho.le l3
     . rw[L06 1 hi2,if_neg (by omega)]; exact hz
 . simp only[decide_eq_false_iff_not]at hge
   have:i+1=es.length:=by omega
   rw[this,List.take_length]at ho
   exact⟨_,rfl,ho⟩
theorem t06{V:View}{a b:BdV}{e f:Eb}(ha:BqAt V a e)(hb:BqAt V b f)(hz:e.num.sz<=2^30)(hw:f.num.sz<=2^30):a00 prog T0r #[a.val,b.val] V λv _=>v=(Sk.v (Es.span ⟨e,f⟩)).val:=by
 have il:=ha.inf
 have ih:=hb.inf
 refine q0q a b V _ (s0w.mono λv V1 l1 hv=>⟨_,hv,g0p.mono λv V2 l2 hv=>⟨_,hv,λh1 => ?_,λh1 => ?_⟩⟩)
 . have h1:e.inf=0:=by rw[<-il]; simpa using h1
   refine(B0m (ha.num.le (View.le_trans l1 l2)) hz).mono λv V3 l3 hv=>⟨_,hv,λh2 => ?_,λh2 => ?_⟩
   . have h2:f.inf=0:=by rw[<-ih]; simpa using h2
     refine(M0f (hb.num.le (View.le_trans l1 (View.le_trans l2 l3))) hw).mono λv V4 l4 hv=>⟨_,hv,?_⟩
     unfold Es.span Sk.v; rw[if_pos h1,if_pos h2]; rfl
   . have h2:f.inf≠0:=by rw[<-ih]; simpa using h2
     unfold Es.span Sk.v; rw[if_pos h1,if_neg h2,<-B0w]; rfl
 . have h1:e.inf≠0:=by rw[<-il]; simpa using h1
   refine⟨λh2 => ?_,λh2 => ?_⟩
   . have h2:f.inf=0:=by rw[<-ih]; simpa using h2
     refine(M0f (hb.num.le (View.le_trans l1 l2)) hw).mono λv V4 l4 hv=>⟨_,hv,?_⟩
     unfold Es.span Sk.v; rw[if_neg h1,if_pos h2,<-a0l]; rfl
   . have h2:f.inf≠0:=by rw[<-ih]; simpa using h2
     unfold Es.span Sk.v; rw[if_neg h1,if_neg h2,<-B0w,<-a0l]
theorem k0a{k:Int}(h:inK k):(endE k).num.sz<=2^12:=Nat.le_trans (s0v h) (by omega)
theorem S0c{V:View}{s t:Sk}(h:s.ok)(k:t.ok):a00 prog G0l #[s.v.val,t.v.val] V λv _=>v=(Sk.v (s.set.add t.set).span).val:=by
 have a1:=k0a h.lo; have a2:=k0a h.hi; have a3:=k0a k.lo; have a4:=k0a k.hi
 have s1:=M06 (endE s.lo) (endE t.lo); have s2:=M06 (endE s.hi) (endE t.hi)
 refine G0k s.v t.v V _ ((G04 h.lo).mono λv V1 l1 ⟨r1,hv,h1⟩=>⟨r1,hv,(G04 k.lo).mono λv V2 l2 ⟨r2,hv,h2⟩=>⟨r2,hv,?_⟩⟩)
 refine(D05 (h1.le l2) h2 (by omega) (by omega)).mono λv V3 l3 ⟨r3,hv,h3⟩=>⟨r3,hv,?_⟩
 refine(G04 h.hi).mono λv V4 l4 ⟨r4,hv,h4⟩=>⟨r4,hv,(G04 k.hi).mono λv V5 l5 ⟨r5,hv,h5⟩=>⟨r5,hv,?_⟩⟩
 refine(D05 (h4.le l5) h5 (by omega) (by omega)).mono λv V6 l6 ⟨r6,hv,h6⟩=>⟨r6,hv,?_⟩
 exact(t06 (h3.le (View.le_trans l4 (View.le_trans l5 l6))) h6 (by omega) (by omega)).mono λv V7 _ hv=>⟨_,hv,rfl⟩
theorem j09{V:View}{s t:Sk}(h:s.ok)(k:t.ok):a00 prog p0f #[s.v.val,t.v.val] V λv _=>v=(Sk.v (s.set.add t.set.neg).span).val:=by
 have a1:=k0a h.lo; have a2:=k0a h.hi; have a3:=k0a k.lo; have a4:=k0a k.hi
 have n1:=j0b (endE t.lo); have n2:=j0b (endE t.hi)
 have s1:=M06 (endE s.lo) (endE t.hi).neg; have s2:=M06 (endE s.hi) (endE t.lo).neg
 refine H0k s.v t.v V _ ((G04 h.lo).mono λv V1 l1 ⟨r1,hv,h1⟩=>⟨r1,hv,(G04 k.hi).mono λv V2 l2 ⟨r2,hv,h2⟩=>⟨r2,hv,?_⟩⟩)
 refine(e09 h2).mono λv V3 l3 ⟨r3,hv,h3⟩=>⟨r3,hv,?_⟩
 refine(D05 (h1.le (View.le_trans l2 l3)) h3 (by omega) (by omega)).mono λv V4 l4 ⟨r4,hv,h4⟩=>⟨r4,hv,?_⟩
 refine(G04 h.hi).mono λv V5 l5 ⟨r5,hv,h5⟩=>⟨r5,hv,(G04 k.lo).mono λv V6 l6 ⟨r6,hv,h6⟩=>⟨r6,hv,?_⟩⟩
 refine(e09 h6).mono λv V7 l7 ⟨r7,hv,h7⟩=>⟨r7,hv,?_⟩
 refine(D05 (h5.le (View.le_trans l6 l7)) h7 (by omega) (by omega)).mono λv V8 l8 ⟨r8,hv,h8⟩=>⟨r8,hv,?_⟩
 exact(t06 (h4.le (View.le_trans l5 (View.le_trans l6 (View.le_trans l7 l8)))) h8 (by omega) (by omega)).mono λv V9 _ hv=>⟨_,hv,rfl⟩
theorem C0j{V:View}{b c:Bk}(h:b.ok)(k:c.ok):a00 prog l0n #[b.v.val,c.v.val] V λv _=>v=(b.add c).v.val :=
 O0l b.v c.v V _ ((S0c h.re k.re).mono λ_ _ _ hv=>⟨_,hv,(S0c h.im k.im).mono λ_ _ _ hv=>⟨_,hv,rfl⟩⟩)
theorem D0j{V:View}{b c:Bk}(h:b.ok)(k:c.ok):a00 prog m0n #[b.v.val,c.v.val] V λv _=>v=(b.sub c).v.val :=
 P0l b.v c.v V _ ((j09 h.re k.re).mono λ_ _ _ hv=>⟨_,hv,(j09 h.im k.im).mono λ_ _ _ hv=>⟨_,hv,rfl⟩⟩)
theorem A0t{V:View}{s:Sk}(h:s.ok)(p:s.proper):a00 prog p0f #[(SpV.mk 0 0).val,s.v.val] V λv _=>v=s.neg.v.val :=
 (j09 E12 h).mono λv _ _ hv=>by rw[hv,A13 h p]
theorem T0i{V:View}{b:Bk}(h:b.ok)(p:b.proper):a00 prog D0l #[b.v.val] V λv _=>v=b.conj.v.val :=
 I0k b.v V _ ((A0t h.im p.2).mono λ_ _ _ hv=>⟨_,hv,rfl⟩)
theorem U13{V:View}{b:Nat}{r1 r2 r3 r4:BdV}{e1 e2 e3 e4:Eb}(h1:BqAt V r1 e1)(h2:BqAt V r2 e2)(h3:BqAt V r3 e3)(h4:BqAt V r4 e4)
 (hb:V b=some #[.int .i64 r1.inf,.bool r1.x.re.neg,r1.x.re.mag.v,.bool r1.x.im.neg,r1.x.im.mag.v,r1.x.under.v,.int .i64 r2.inf,.bool r2.x.re.neg,r2.x.re.mag.v,.bool r2.x.im.neg,r2.x.im.mag.v,r2.x.under.v,.int .i64 r3.inf,.bool r3.x.re.neg,r3.x.re.mag.v,.bool r3.x.im.neg,r3.x.im.mag.v,r3.x.under.v,.int .i64 r4.inf,.bool r4.x.re.neg,r4.x.re.mag.v,.bool r4.x.im.neg,r4.x.im.mag.v,r4.x.under.v]) :
 a0o V ⟨some ⟨b,0,none⟩,4,4⟩ [e1,e2,e3,e4] :=
 G02 (o:=r1.val.cells.toList++(r2.val.cells.toList++(r3.val.cells.toList++(r4.val.cells.toList++[])))) hb
  ⟨_,_,rfl,rfl,⟨r1,rfl,h1⟩,_,_,rfl,rfl,⟨r2,rfl,h2⟩,_,_,rfl,rfl,⟨r3,rfl,h3⟩,_,_,rfl,rfl,⟨r4,rfl,h4⟩,rfl⟩ rfl
theorem E0j{V:View}{a b c d:BdV}{x y:Es}(ha:BqAt V a x.lo)(hb:BqAt V b x.hi)(hc:BqAt V c y.lo)(hd:BqAt V d y.hi){S:Nat}(hx:P06 x S)(hy:P06 y S)(hS:S<=2^30) :
 a00 prog p0n #[a.val,b.val,c.val,d.val] V λv V'=>∃s:Sl,v=s.v/\a0o V' s (Es.prods x y):=by
 have s1:=hx.1; have s2:=hx.2; have s3:=hy.1; have s4:=hy.2
 refine M0l a b c d V _ ((f09 ha hc (by omega) (by omega)).mono λv V1 l1 ⟨r1,hv,h1⟩=>⟨r1,hv,?_⟩)
 refine(f09 (ha.le l1) (hd.le l1) (by omega) (by omega)).mono λv V2 l2 ⟨r2,hv,h2⟩=>⟨r2,hv,?_⟩
 have L2:=View.le_trans l1 l2
 refine(f09 (hb.le L2) (hc.le L2) (by omega) (by omega)).mono λv V3 l3 ⟨r3,hv,h3⟩=>⟨r3,hv,?_⟩
 have L3:=View.le_trans L2 l3
 refine(f09 (hb.le L3) (hd.le L3) (by omega) (by omega)).mono λv V4 l4 ⟨r4,hv,h4⟩=>⟨r4,hv,λb1 V5 l5 _ hb1=>⟨_,rfl,?_⟩⟩
 exact U13 (h1.le (View.le_trans l2 (View.le_trans l3 (View.le_trans l4 l5)))) (h2.le (View.le_trans l3 (View.le_trans l4 l5))) (h3.le (View.le_trans l4 l5)) (h4.le l5) hb1
theorem c07{V:View}{s t:Sk}(h:s.ok)(k:t.ok):a00 prog F0l #[s.v.val,t.v.val] V λv V'=>∃q:Sl,v=q.v/\a0o V' q (Es.prods s.set t.set):=by
 refine F0k s.v t.v V _ ((G04 h.lo).mono λv V1 l1 ⟨r1,hv,h1⟩=>⟨r1,hv,(G04 h.hi).mono λv V2 l2 ⟨r2,hv,h2⟩=>⟨r2,hv,?_⟩⟩)
 refine(G04 k.lo).mono λv V3 l3 ⟨r3,hv,h3⟩=>⟨r3,hv,(G04 k.hi).mono λv V4 l4 ⟨r4,hv,h4⟩=>⟨r4,hv,?_⟩⟩
 exact(E0j (x:=s.set) (y:=t.set) (h1.le (View.le_trans l2 (View.le_trans l3 l4))) (h2.le (View.le_trans l3 l4)) (h3.le l4) h4 (o06 h) (o06 k) (by omega)).mono λv V5 _ ⟨q,hv,hq⟩=>⟨q,hv,q,rfl,hq⟩
theorem H0m{s t:Sk}(h:s.ok)(k:t.ok):∀x∈Es.prods s.set t.set,x.num.sz<=2^13:=λx hx=>by have:=k0r (o06 h) (o06 k) x hx; omega
theorem F0j{V:View}{b c:Bk}(h:b.ok)(k:c.ok):a00 prog k0n #[b.v.val,c.v.val] V λv _=>v=(b.mul c).v.val:=by
 have sz:∀ {s t:Sk},s.ok->t.ok->∀way,(Eb.pick way (Es.prods s.set t.set)).num.sz<=2^13:=λhs ht way=>u0v (C0h _ _) (H0m hs ht)
 have ls:∀ {V:View} {s t:Sk} {q:Sl},s.ok->t.ok->a0o V q (Es.prods s.set t.set)->a00 prog U0j #[q.v] V λv V'=>∃b:BdV,v=b.val/\BqAt V' b (Eb.pick (-1) (Es.prods s.set t.set)) :=
  λhs ht hq=>G0m hq (C0h _ _) (by simp[Es.prods]) λx hx=>Nat.le_trans (H0m hs ht x hx) (by omega)
 have gs:∀ {V:View} {s t:Sk} {q:Sl},s.ok->t.ok->a0o V q (Es.prods s.set t.set)->a00 prog o0f #[q.v] V λv V'=>∃b:BdV,v=b.val/\BqAt V' b (Eb.pick 1 (Es.prods s.set t.set)) :=
  λhs ht hq=>S0i hq (C0h _ _) (by simp[Es.prods]) λx hx=>Nat.le_trans (H0m hs ht x hx) (by omega)
 have a1:=sz h.re k.re (-1); have a2:=sz h.re k.re 1; have a3:=sz h.im k.im (-1); have a4:=sz h.im k.im 1
 have a5:=sz h.re k.im (-1); have a6:=sz h.re k.im 1; have a7:=sz h.im k.re (-1); have a8:=sz h.im k.re 1
 have n3:=j0b (Eb.pick (-1) (Es.prods b.im.set c.im.set)); have n4:=j0b (Eb.pick 1 (Es.prods b.im.set c.im.set))
 have t1:=M06 (Eb.pick (-1) (Es.prods b.re.set c.re.set)) (Eb.pick 1 (Es.prods b.im.set c.im.set)).neg
 have t2:=M06 (Eb.pick 1 (Es.prods b.re.set c.re.set)) (Eb.pick (-1) (Es.prods b.im.set c.im.set)).neg
 have t3:=M06 (Eb.pick (-1) (Es.prods b.re.set c.im.set)) (Eb.pick (-1) (Es.prods b.im.set c.re.set))
 have t4:=M06 (Eb.pick 1 (Es.prods b.re.set c.im.set)) (Eb.pick 1 (Es.prods b.im.set c.re.set))
 refine Q0l b.v c.v V _ ((c07 h.re k.re).mono λv V1 l1 ⟨q1,hv,h1⟩=>⟨q1,hv,(c07 h.im k.im).mono λv V2 l2 ⟨q2,hv,h2⟩=>⟨q2,hv,?_⟩⟩)
 refine(c07 h.re k.im).mono λv V3 l3 ⟨q3,hv,h3⟩=>⟨q3,hv,(c07 h.im k.re).mono λv V4 l4 ⟨q4,hv,h4⟩=>⟨q4,hv,?_⟩⟩
 replace h1:=h1.le (View.le_trans l2 (View.le_trans l3 l4)); replace h2:=h2.le (View.le_trans l3 l4); replace h3:=h3.le l4
 refine(ls h.re k.re h1).mono λv V5 l5 ⟨r5,hv,h5⟩=>⟨r5,hv,(gs h.im k.im (h2.le l5)).mono λv V6 l6 ⟨r6,hv,h6⟩=>⟨r6,hv,?_⟩⟩
 refine(e09 h6).mono λv V7 l7 ⟨r7,hv,h7⟩=>⟨r7,hv,?_⟩
 refine(D05 (h5.le (View.le_trans l6 l7)) h7 (by omega) (by omega)).mono λv V8 l8 ⟨r8,hv,h8⟩=>⟨r8,hv,?_⟩
 have L8:=View.le_trans l5 (View.le_trans l6 (View.le_trans l7 l8))
 refine(gs h.re k.re (h1.le L8)).mono λv V9 l9 ⟨r9,hv,h9⟩=>⟨r9,hv,(ls h.im k.im (h2.le (View.le_trans L8 l9))).mono λv V10 l10 ⟨r10,hv,h10⟩=>⟨r10,hv,?_⟩⟩
 refine(e09 h10).mono λv V11 l11 ⟨r11,hv,h11⟩=>⟨r11,hv,?_⟩
 refine(D05 (h9.le (View.le_trans l10 l11)) h11 (by omega) (by omega)).mono λv V12 l12 ⟨r12,hv,h12⟩=>⟨r12,hv,?_⟩
 have L12:=View.le_trans l9 (View.le_trans l10 (View.le_trans l11 l12))
 refine(t06 (h8.le L12) h12 (by omega) (by omega)).mono λv V13 l13 hv=>⟨_,hv,?_⟩
 have L13:=View.le_trans L8 (View.le_trans L12 l13)
 refine(ls h.re k.im (h3.le L13)).mono λv V14 l14 ⟨r14,hv,h14⟩=>⟨r14,hv,(ls h.im k.re (h4.le (View.le_trans L13 l14))).mono λv V15 l15 ⟨r15,hv,h15⟩=>⟨r15,hv,?_⟩⟩
 refine(D05 (h14.le l15) h15 (by omega) (by omega)).mono λv V16 l16 ⟨r16,hv,h16⟩=>⟨r16,hv,?_⟩
 have L16:=View.le_trans L13 (View.le_trans l14 (View.le_trans l15 l16))
 refine(gs h.re k.im (h3.le L16)).mono λv V17 l17 ⟨r17,hv,h17⟩=>⟨r17,hv,(gs h.im k.re (h4.le (View.le_trans L16 l17))).mono λv V18 l18 ⟨r18,hv,h18⟩=>⟨r18,hv,?_⟩⟩
 refine(D05 (h17.le l18) h18 (by omega) (by omega)).mono λv V19 l19 ⟨r19,hv,h19⟩=>⟨r19,hv,?_⟩
 exact(t06 (h16.le (View.le_trans l17 (View.le_trans l18 l19))) h19 (by omega) (by omega)).mono λv V20 _ hv=>⟨_,hv,rfl⟩
-- squares
theorem B0t{r:RatV}(h:ratI r):(ratQ r).sz<=64:=by
 obtain⟨⟨a,b⟩,⟨c,d⟩,e,f⟩:=h
 have key:Rep (ratQ r) (if r.den<0 then -r.re else r.re) (if r.den<0 then -r.im else r.im) (if r.den=0 then 1 else r.den.natAbs):=by
  unfold ratQ
  split
  . rename_i h0
    have:¬r.den<0:=by omega
    rw[if_neg this,if_neg this]
    refine⟨by omega,?_,?_⟩<;>simp only[]<;>rw[Rat.div_def]<;>simp<;>grind
  . by_cases hn:r.den<0
    . rw[if_pos hn,if_pos hn]
      have hd:(r.den:Rat)≠0:=by
       intro e0
       have:=Rat.intCast_inj.1 (e0.trans Rat.intCast_zero.symm)
       omega
      have e:((r.den.natAbs:Nat):Rat) = -(r.den:Rat):=by
       have e1:((r.den.natAbs:Nat):Rat)=(((r.den.natAbs:Nat):Int):Rat):=rfl
       have e2:((r.den.natAbs:Nat):Int) = -r.den:=by omega
       rw[e1,e2,Rat.intCast_neg]
      refine⟨by omega,?_,?_⟩<;>simp only[e,Rat.intCast_neg]<;>grind
    . rw[if_neg hn,if_neg hn]
      have e:((r.den.natAbs:Nat):Rat)=(r.den:Rat):=by
       have e2:((r.den.natAbs:Nat):Int)=r.den:=by omega
       conv=>rhs; rw[<-e2]
       rfl
      exact⟨by omega,by simp only[e],by simp only[e]⟩
 refine key.sz ?_ ?_ ?_
 . exact j03 (by split<;>omega)
 . exact j03 (by split<;>omega)
 . exact j03 (by split<;>omega)
def ofS(q:Rat):Sk:=⟨Z08 q,f0a q⟩
def ofB(z:Cq):Bk:=⟨ofS z.re,ofS z.im⟩
theorem M14(q:Rat):(ofS q).ok:=⟨U0s q,W0s q⟩
theorem l0a(z:Cq):(ofB z).ok:=⟨M14 _,M14 _⟩
theorem I0m{V:View}{x y:NumV}{q:Rat}(hx:K05 V x ⟨q,0⟩)(hy:K05 V y ⟨q,0⟩)(hz:(⟨q,0⟩:Cq).sz<=2^28):a00 prog S0r #[x.val,y.val] V λv _=>v = .tuple #[(ofS q).v.val,.int .i64 0]:=by
 refine x0q x y V _ ((D0e hx).mono λv V1 l1 hv=>⟨_,hv,λh=>absurd h (by simp),λ_ => ?_⟩)
 refine(D0e (hy.le l1)).mono λv V2 l2 hv=>⟨_,hv,λh=>absurd h (by simp),λ_ b1 V3 l3 _ hb1 => ?_⟩
 have L3:=View.le_trans l1 (View.le_trans l2 l3)
 have bx:BdAt V3 (BdV.mk 0 x) ⟨0,q⟩:=⟨rfl,hx.le L3,.inl rfl⟩
 have byy:BdAt V3 (BdV.mk 0 y) ⟨0,q⟩:=⟨rfl,hy.le L3,.inl rfl⟩
 have hs:∀e∈[(⟨0,q⟩:Eb),⟨0,q⟩],e.num.sz<=2^40:=by
  intro e he; simp at he; subst he; exact Nat.le_trans hz (by omega)
 have pk:∀way,Eb.pick way [(⟨0,q⟩:Eb),⟨0,q⟩]=⟨0,q⟩:=λway=>by
  show(if Eb.cmp ⟨0,q⟩ ⟨0,q⟩=way then(⟨0,q⟩:Eb)else⟨0,q⟩)=_
  split<;>rfl
 refine(p0p (S11 bx byy hb1) (by simp) (by simp) hs).mono λv V4 l4 ⟨r3,hv,h3⟩=>⟨r3,hv,λb2 V5 l5 _ hb2 => ?_⟩
 have L5:=View.le_trans l4 l5
 refine(M0i (S11 (bx.le L5) (byy.le L5) hb2) (by simp) (by simp) hs).mono λv V6 l6 ⟨r4,hv,h4⟩=>⟨r4,hv,?_⟩
 rw[pk]at h3 h4
 have hset:EsAt V6 (SetV.mk r3 r4) ⟨⟨0,q⟩,⟨0,q⟩⟩:=⟨h3.le (View.le_trans l5 l6),h4⟩
 refine(i09 hset (S:=2^28) ⟨hz,hz⟩ (by omega)).mono λv V7 _ hv=>⟨_,hv,?_⟩
 rfl
theorem G0j{V:View}{x:NumV}{z:Cq}(b:BoxV)(hx:K05 V x z)(hz:z.sz<=2^27):a00 prog a13 #[b.val,x.val] V λv _=>v=(ofB z).v.val:=by
 have s1:=K14 z; have s2:=L14 z
 refine p10 b x V _ ((C0m hx (by omega)).mono λv V1 l1 ⟨r1,hv,h1⟩=>⟨r1,hv,?_⟩)
 refine(C0m (hx.le l1) (by omega)).mono λv V2 l2 ⟨r2,hv,h2⟩=>⟨r2,hv,?_⟩
 refine(I0m (h1.le l2) h2 (by omega)).mono λv V3 l3 hv=>⟨_,_,hv,?_⟩
 have L3:=View.le_trans l1 (View.le_trans l2 l3)
 refine(D0m (hx.le L3) (by omega)).mono λv V4 l4 ⟨r5,hv,h5⟩=>⟨r5,hv,?_⟩
 refine(D0m (hx.le (View.le_trans L3 l4)) (by omega)).mono λv V5 l5 ⟨r6,hv,h6⟩=>⟨r6,hv,?_⟩
 exact(I0m (h5.le l5) h6 (by omega)).mono λv V6 _ hv=>⟨_,_,hv,rfl⟩
theorem X11(s:Sk)(q:Rat):s.has q=true↔¬Eb.LT ⟨0,q⟩ (endE s.lo)/\¬Eb.LT (endE s.hi) ⟨0,q⟩:=by
 unfold Sk.has
 rw[Bool.and_eq_true,decide_eq_true_iff,decide_eq_true_iff,<-Eb.cmp_1,<-Eb.cmp_1]
 have r1:=Eb.cmp_range (endE s.lo) ⟨0,q⟩
 have r2:=Eb.cmp_range ⟨0,q⟩ (endE s.hi)
 constructor
 . rintro⟨h1,h2⟩; exact⟨by omega,by omega⟩
 . rintro⟨h1,h2⟩; exact⟨by omega,by omega⟩
theorem Y11(q:Rat):(ofS q).has q=true:=(X11 _ _).2 ⟨u0h q,k0v q⟩
theorem Q15(z:Cq):(ofB z).has z=true:=by
 show((ofS z.re).has z.re&&(ofS z.im).has z.im)=true
 rw[Y11,Y11]; rfl
theorem e0b{V:View}{r:RatV}(h:ratI r):a00 prog P0z #[r.val] V λv V'=>∃x:NumV,v=x.val/\QAt V' x (ratQ r):=by
 obtain⟨⟨a1,a2⟩,⟨b1,b2⟩,⟨c1,c2⟩⟩:=h
 refine i0y r V _ ⟨λhd => ?_,λhd => ?_⟩
 . have hd:r.den=0:=by simpa using hd
   refine(E0e a1 a2 b1 b2 (by omega) (by omega) (by omega)).mono λv V1 _ ⟨x,hv,hx⟩=>⟨x,0,hv,x,rfl,?_⟩
   have e:ratQ r=⟨((r.re:Int):Rat) / ((1:Int):Rat),((r.im:Int):Rat) / ((1:Int):Rat)⟩:=by
    unfold ratQ; rw[if_pos hd]
    exact Cq.ext' (by simp only[]; grind) (by simp only[]; grind)
   rw[e]; exact hx
 . have hd:r.den≠0:=by simpa using hd
   refine(E0e a1 a2 b1 b2 c1 c2 hd).mono λv V1 _ ⟨x,hv,hx⟩=>⟨x,0,hv,x,rfl,?_⟩
   have e:ratQ r=⟨((r.re:Int):Rat) / ((r.den:Int):Rat),((r.im:Int):Rat) / ((r.den:Int):Rat)⟩:=by
    unfold ratQ; rw[if_neg hd]
   rw[e]; exact hx
theorem C0t{V:View}{x:NumV}{z:Cq}(h:QAt V x z)(hz:z.sz<=2^40):a00 prog b10 #[x.val] V λv V'=>∃r:NumV,v=r.val/\QAt V' r ⟨z.re,0⟩:=by
 have zA:=Cq.wA hz; have zB:=Cq.wB hz; have zD:=Cq.wD hz
 exact n0y x V _ ((k06 h.re (k03.zero V) h.under (D0v z.canon.rep) (by omega) (by rw[Int.natAbs_zero,U08]; omega) (by omega)).mono λv V' _ ⟨r,hv,hq⟩=>⟨r,hv,r,rfl,hq⟩)
theorem a0h{V:View}{s t:Sk}(h:s.ok)(k:t.ok):a00 prog j0u #[s.v.val,t.v.val] V λv _=>v=(s.hull t).v.val:=by
 refine B0s s.v t.v V _ ⟨n0g h.lo k.lo,n0g h.hi k.hi,?_⟩
 show(SpV.mk (fmin .f64 (q03 s.lo) (q03 t.lo)) (fmax .f64 (q03 s.hi) (q03 t.hi))).val=_
 rw[W0v h.lo k.lo,U0v h.hi k.hi]; rfl
theorem T0c{V:View}{b c:Bk}(h:b.ok)(k:c.ok):a00 prog C0l #[b.v.val,c.v.val] V λv _=>v=(b.hull c).v.val :=
 J0k b.v c.v V _ ((a0h h.re k.re).mono λ_ _ _ hv=>⟨_,hv,(a0h h.im k.im).mono λ_ _ _ hv=>⟨_,hv,rfl⟩⟩)
theorem X0e{V:View}{b c:Bk}(h:b.ok)(k:c.ok):a00 prog I0p #[b.v.val,c.v.val] V λv _=>v = .bool (b.isIn c):=by
 refine O0n b.v c.v V _ ((c0e h.re k.re).mono λv V1 _ hv=>⟨_,hv,λhc => ?_,λhc => ?_⟩)
 . refine(c0e h.im k.im).mono λv V2 _ hv=>⟨_,hv,?_⟩
   unfold Bk.isIn; rw[hc]; rfl
 . unfold Bk.isIn; rw[hc]; rfl
theorem z08{V:View}{x:NumV}{z:Cq}(hx:QAt V x z)(hz:z.sz<=2^27):a00 prog O0z #[x.val] V λv _=>v=(ofB z).v.val:=by
 have s1:=K14 z; have s2:=L14 z
 have z1:(⟨0,z.re⟩:Eb).num.sz<=2^30:=by show(⟨z.re,0⟩:Cq).sz<=_; omega
 have z2:(⟨0,z.im⟩:Eb).num.sz<=2^30:=by show(⟨z.im,0⟩:Cq).sz<=_; omega
 refine o0y x V _ ((C0t hx (by omega)).mono λv V1 l1 ⟨r1,hv,h1⟩=>⟨r1,hv,(B07 h1).mono λv V2 l2 ⟨b1,hv,hb1⟩=>⟨b1,hv,?_⟩⟩)
 refine(o0k (hx.le (View.le_trans l1 l2)) (by omega)).mono λv V3 l3 ⟨r3,hv,h3⟩=>⟨r3,hv,(B07 h3).mono λv V4 l4 ⟨b2,hv,hb2⟩=>⟨b2,hv,?_⟩⟩
 replace hb1:=hb1.le (View.le_trans l3 l4)
 refine(t06 hb1 hb1 z1 z1).mono λv V5 l5 hv=>⟨_,hv,?_⟩
 exact(t06 (hb2.le l5) (hb2.le l5) z2 z2).mono λv V6 _ hv=>⟨_,hv,rfl⟩
theorem c0j(b c:Bk):(b.sub c).ok:=⟨l0b _,l0b _⟩
abbrev fitL(a b:List Bk):Prop:=a.length=b.length/\a.length<=64
theorem Z11(b:BoxV):∀v∈b.val.cells.toList,Value.oneCell' v=true:=by
 intro v hv
 simp only[show b.val.cells.toList=[Value.float .f64 b.re.lo,.float .f64 b.re.hi,.float .f64 b.im.lo,.float .f64 b.im.hi]from rfl,List.mem_cons,List.not_mem_nil,or_false]at hv
 rcases hv with rfl|rfl|rfl|rfl<;>rfl
theorem C03{V:View}{b n:Nat}{o:List Value}{F:Nat->Bk}{f:Nat->Option Bk}(hb:V b=some o.toArray){V':View}(h:OptG 4 boxC V' o n f)(e:∀p,p<n->f p=some (F p)) :
 u01 V ⟨some ⟨b,0,none⟩,n,n⟩ ((List.range n).map F) :=
 G02 hb ((OptG.all (OptG.le (P:=boxC) (V:=V') (V':=V) (λ_ _ h=>h) h) e)) (by simp)
theorem z0h{V:View}{b c:Bk}(h:b.ok)(k:c.ok):a00 prog E0d #[b.v.val,c.v.val] V λv _=>v=(b.mul c).v.val:=i0d _ _ V _ ((F0j h k).mono λ_ _ _ hv=>⟨_,hv,rfl⟩)
theorem H0j{V:View}{b c:Bk}(h:b.ok)(k:c.ok):a00 prog F0d #[b.v.val,c.v.val] V λv _=>v=(b.add c).v.val:=j0d _ _ V _ ((C0j h k).mono λ_ _ _ hv=>⟨_,hv,rfl⟩)
theorem a12{V:View}{b c:Bk}(h:b.ok)(k:c.ok):a00 prog H0d #[b.v.val,c.v.val] V λv _=>v=(b.sub c).v.val:=k0d _ _ V _ ((D0j h k).mono λ_ _ _ hv=>⟨_,hv,rfl⟩)
theorem e0l{V:View}{b:Bk}(h:b.ok)(p:b.proper):a00 prog n0e #[b.v.val] V λv _=>v=b.conj.v.val:=T0d _ V _ ((T0i h p).mono λ_ _ _ hv=>⟨_,hv,rfl⟩)
theorem b12{V:View}(p q:Sl):a00 prog e0d #[p.v,q.v] V λv _=>v = .bool (lenB q.len&&decide (p.len=q.len)):=by
 refine t0c p q V _ ((Y03 (Int.natCast_nonneg _)).mono λv V1 l1 hv=>⟨_,hv,λh => ?_,λh => ?_⟩)
 . rw[Int.toNat_natCast]at h
   rw[h,Bool.true_and]; congr 1
   rw[Bool.eq_iff_iff]; simp; omega
 . rw[Int.toNat_natCast]at h
   rw[h,Bool.false_and]
theorem d12{V:View}(p q:Sl):a00 prog f0d #[p.v,q.v] V λv _=>v = .bool (lenB q.len&&decide (p.len=q.len)):=by
 refine y0c p q V _ ((F0e _).mono λv V1 _ hv=>⟨_,hv,λh => ?_,λh => ?_⟩)
 . rw[Int.toNat_natCast]at h
   rw[h,Bool.true_and]; congr 1
   rw[Bool.eq_iff_iff]; simp; omega
 . rw[Int.toNat_natCast]at h
   rw[h,Bool.false_and]
theorem D0t{V:View}(p q:Sl):a00 prog n08 #[p.v,q.v] V λv _=>v = .bool (decide (p.len=q.len/\p.len<=64)):=by
 refine P07 p q V _ ⟨λh => ?_,λh => ?_⟩
 . have h:p.len=q.len:=by have:(p.len:Int)=q.len:=(by simpa using h); omega
   congr 1
   by_cases c:p.len<=64
   . rw[decide_eq_true (show((p.len:Int)<=64)by omega),decide_eq_true ⟨h,c⟩]
   . rw[decide_eq_false (show ¬((p.len:Int)<=64)by omega),decide_eq_false (λx=>c x.2)]
 . have h:¬p.len=q.len:=by
     intro e; rw[e]at h; simp at h
   rw[decide_eq_false (λx=>h x.1)]
theorem J0m{V:View}(p q:Sl):a00 prog a0d #[p.v,q.v] V λv _=>v = .bool (decide (p.len=q.len/\p.len<=64)):=by
 refine x0c p q V _ ⟨λh => ?_,λh => ?_⟩
 . have h:p.len=q.len:=by have:(p.len:Int)=q.len:=(by simpa using h); omega
   congr 1
   by_cases c:p.len<=64
   . rw[decide_eq_true (show((p.len:Int)<=64)by omega),decide_eq_true ⟨h,c⟩]
   . rw[decide_eq_false (show ¬((p.len:Int)<=64)by omega),decide_eq_false (λx=>c x.2)]
 . have h:¬p.len=q.len:=by
     intro e; rw[e]at h; simp at h
   rw[decide_eq_false (λx=>h x.1)]
theorem m0r{V:View}{s:Sl}{zs:List Bk}{a:Int}(h:u01 V s zs)(ha:0<=a)(ha1:a<=1)(hn:zs.length<=2^32)(hn1:1<=zs.length) :
 a00 prog n0c #[s.v,.int .i64 a] V λv V'=>∃r:Sl,v=r.v/\u01 V' r (D04 zs a.toNat):=by
 have hl:=h.len
 refine F0b s a V _ (λ_ x V'=>∃l,x.t6=a+2*x.t5l/\2*x.t5l+a.toNat<=zs.length+1/\n05 4 x.t5l x.t5c x.o5 l/\y01 4 boxC V' l ((List.range x.t5l).map λk=>nthB zs (a.toNat+2*k)))
  (λ_ x _=>zs.length+2-2*x.t5l) ⟨⟨[],by simp,by simp; omega,n05.nil,rfl⟩,?_⟩
 rintro⟨n,c,t,o⟩ V1 l1 ⟨l,ht,hm,hlo,hin⟩
 dsimp only at ht hm hlo hin ⊢
 refine⟨λhlt => ?_,λhge => ?_⟩
 . simp only[decide_eq_true_eq]at hlt
   obtain⟨hb,hx,hs,hk⟩:=(h.le l1).get (t:=t) (by omega) (by omega)
   refine⟨hb,(nthB zs t.toNat).v,hx,hs,λb V2 l2 hf hV2 => ?_⟩
   refine⟨l,_,hlo,X0b (l:=(nthB zs t.toNat).v.val.cells.toList) hV2,rfl,Z11 _,?_,?_,λc1 l3 hl3 => ?_⟩
   . simp only[maxLen]; omega
   . omega
   . have e:i64.wrap (t+2)=t+2:=i64w (by omega) (by omega)
     refine⟨⟨_,by rw[e]; omega,by omega,hl3,?_⟩,by omega⟩
     have e3:a.toNat+2*n=t.toNat:=by omega
     rw[List.range_succ,List.map_append,List.map_cons,List.map_nil,e3]
     exact(hin.imp (boxC.le l2)).append (y01.one rfl ⟨rfl,hk⟩)
 . simp only[decide_eq_false_iff_not]at hge
   intro b V3 l3 hb
   refine⟨_,rfl,?_⟩
   have e:n=(zs.length+1-a.toNat) / 2:=by omega
   unfold D04
   rw[<-e]
   exact f0b hlo hb (hin.imp (boxC.le l3)) (by simp)
theorem f0l{V:View}{s:Sl}{zs:List Bk}{a:Int}(h:u01 V s zs)(ha:0<=a)(ha1:a<=1)(hn:zs.length<=2^32)(hn1:1<=zs.length) :
 a00 prog o0c #[s.v,.int .i64 a] V λv V'=>∃r:Sl,v=r.v/\u01 V' r (D04 zs a.toNat):=by
 have hl:=h.len
 refine L0b s a V _ (λ_ x V'=>∃l,x.t6=a+2*x.t5l/\2*x.t5l+a.toNat<=zs.length+1/\n05 4 x.t5l x.t5c x.o7 l/\y01 4 boxC V' l ((List.range x.t5l).map λk=>nthB zs (a.toNat+2*k)))
  (λ_ x _=>zs.length+2-2*x.t5l) ⟨⟨[],by simp,by simp; omega,n05.nil,rfl⟩,?_⟩
 rintro⟨n,c,t,o⟩ V1 l1 ⟨l,ht,hm,hlo,hin⟩
 dsimp only at ht hm hlo hin ⊢
 refine⟨λhlt => ?_,λhge => ?_⟩
 . simp only[decide_eq_true_eq]at hlt
   obtain⟨hb,hx,hs,hk⟩:=(h.le l1).get (t:=t) (by omega) (by omega)
   refine⟨hb,(nthB zs t.toNat).v,hx,hs,λb V2 l2 hf hV2 => ?_⟩
   refine⟨l,_,hlo,X0b (l:=(nthB zs t.toNat).v.val.cells.toList) hV2,rfl,Z11 _,?_,?_,λc1 l3 hl3 => ?_⟩
   . simp only[maxLen]; omega
   . omega
   . have e:i64.wrap (t+2)=t+2:=i64w (by omega) (by omega)
     refine⟨⟨_,by rw[e]; omega,by omega,hl3,?_⟩,by omega⟩
     have e3:a.toNat+2*n=t.toNat:=by omega
     rw[List.range_succ,List.map_append,List.map_cons,List.map_nil,e3]
     exact(hin.imp (boxC.le l2)).append (y01.one rfl ⟨rfl,hk⟩)
 . simp only[decide_eq_false_iff_not]at hge
   intro b V3 l3 hb
   refine⟨_,rfl,?_⟩
   have e:n=(zs.length+1-a.toNat) / 2:=by omega
   unfold D04
   rw[<-e]
   obtain⟨o',ho'⟩:=hlo.split
   refine l01.of_block (o:=l) (o':=o') (b:=b) (λhne => ?_) (hin.imp (boxC.le l3)) (by simp) hlo.le (λ_=>rfl)
   rw[<-ho']at hne ⊢
   exact hb hne
theorem n0r{V:View}{s:Sl}{zs:List Bk}(h:u01 V s zs)(hn:zs.length<=2^32) :
 a00 prog n09 #[s.v] V λv V'=>∃r:Sl,v=r.v/\u01 V' r (S0q zs):=by
 have hl:=h.len
 refine k09 s V _ (λ_ x V'=>∃k:Nat,x.t10=(k:Int)/\k<=zs.length/\OptG 4 boxC V' x.o7 zs.length (seqG (λi=>(nthB zs i).conj) k)) (λ_ x _=>(zs.length-x.t10).toNat) ?_
 rw[hl,Int.toNat_natCast]
 refine⟨⟨by omega,by omega,by omega,by omega⟩,⟨0,rfl,by omega,OptG.start boxC V _ _ rfl⟩,?_⟩
 rintro⟨t,o⟩ V1 l1 ⟨k,rfl,hk,ho⟩
 dsimp only at ho ⊢
 refine⟨λhlt => ?_,λhge b V3 l3 hb => ?_⟩
 . simp only[decide_eq_true_eq]at hlt
   have hk':k<zs.length:=by omega
   obtain⟨hb,hx,hs,hk⟩:=(h.le l1).get (t:=(k:Int)) (by omega) (by rw[Int.toNat_natCast]; exact hk')
   rw[hl]at hb
   rw[Int.toNat_natCast]at hk
   refine⟨hb,_,hx,hs,?_⟩
   rw[Int.toNat_natCast]
   refine(c0b hk).mono λv V2 l2 hv=>⟨_,hv,⟨by omega,by omega⟩,?_⟩
   rw[i64w (by omega) (by omega)]
   have ho2:=ho.le (boxC.le l2)
   exact⟨ho2.room hk',⟨k+1,by omega,by omega,ho2.next hk' rfl ⟨rfl,B08 hk⟩⟩,by omega⟩
 . simp only[decide_eq_false_iff_not]at hge
   have hk':k=zs.length:=by omega
   subst hk'
   exact⟨_,rfl,C03 (F:=λi=>(nthB zs i).conj) hb ho λp hp=>F07 hp⟩
theorem o0r{V:View}{s:Sl}{zs:List Bk}(h:u01 V s zs)(hn:zs.length<=2^32)(hP:∀i,i<zs.length->(nthB zs i).proper) :
 a00 prog o09 #[s.v] V λv V'=>∃r:Sl,v=r.v/\u01 V' r (S0q zs):=by
 have hl:=h.len
 refine l09 s V _ (λ_ x V'=>∃k:Nat,x.t4=(k:Int)/\k<=zs.length/\OptG 4 boxC V' x.o7 zs.length (seqG (λi=>(nthB zs i).conj) k)) (λ_ x _=>(zs.length-x.t4).toNat) ?_
 rw[hl,Int.toNat_natCast]
 refine⟨⟨by omega,by omega,by omega,by omega⟩,⟨0,rfl,by omega,OptG.start boxC V _ _ rfl⟩,?_⟩
 rintro⟨t,o⟩ V1 l1 ⟨k,rfl,hk,ho⟩
 dsimp only at ho ⊢
 refine⟨λhlt => ?_,λhge b V3 l3 hb => ?_⟩
 . simp only[decide_eq_true_eq]at hlt
   have hk':k<zs.length:=by omega
   obtain⟨hb,hx,hs,hk⟩:=(h.le l1).get (t:=(k:Int)) (by omega) (by rw[Int.toNat_natCast]; exact hk')
   rw[hl]at hb
   rw[Int.toNat_natCast]at hk
   refine⟨hb,_,hx,hs,?_⟩
   rw[Int.toNat_natCast]
   refine(e0l hk (hP k hk')).mono λv V2 l2 hv=>⟨_,hv,⟨by omega,by omega⟩,?_⟩
   rw[i64w (by omega) (by omega)]
   have ho2:=ho.le (boxC.le l2)
   exact⟨ho2.room hk',⟨k+1,by omega,by omega,ho2.next hk' rfl ⟨rfl,B08 hk⟩⟩,by omega⟩
 . simp only[decide_eq_false_iff_not]at hge
   have hk':k=zs.length:=by omega
   subst hk'
   exact⟨_,rfl,C03 (F:=λi=>(nthB zs i).conj) hb ho λp hp=>F07 hp⟩
theorem U0y{V:View}:a00 prog Q09 #[.int .i64 0] V λv V1=>∃r1:NumV,v=r1.val/\QAt V1 r1 Cq.zero:=by
 have ez:(⟨((0:Int):Rat),0⟩:Cq)=Cq.zero:=Cq.ext' (by simp[Cq.zero]) rfl
 exact(Y0b (n:=0) (by omega) (by omega)).mono λv V1 _ ⟨r,hv,hr⟩=>⟨r,hv,by rw[<-ez]; exact hr⟩
theorem K0m(a b:List Bk)(j k:Nat):(W0b a b j k).ok:=by cases k<;>first|exact Bk.mul_ok _ _|exact Bk.add_ok _ _
theorem C0w{zs:List Bk}(h:(nthB zs 0).ok)(k:Nat):(t0h zs k).ok:=by cases k<;>first|exact h|exact Bk.add_ok _ _
theorem D0w(zs:List Bk)(k:Nat):(J0y zs k).ok:=by cases k<;>first|exact Bk.mul_ok _ _|exact Bk.add_ok _ _
theorem W13{V:View}{p q:Sl}{a b:List Bk}(hp:u01 V p a)(hq:u01 V q b)(hf:fitL a b) :
 a00 prog c0c #[p.v,q.v] V λv V'=>∃r:Sl,v = .tuple #[r.v,.int .i64 0]/\u01 V' r (Z0v a b):=by
 have hpl:=hp.len
 have hql:=hq.len
 obtain⟨h1,h2⟩:=hf
 refine K0b p q V _ (λ_ x V'=>∃k:Nat,x.t17=(k:Int)/\k<=a.length/\OptG 4 boxC V' x.o14 a.length (seqG (λi=>(nthB a i).mul (nthB b i)) k)) (λ_ x _=>(a.length-x.t17).toNat)
  ((D0t p q).mono λv V1 l1 hv=>⟨_,hv,λh => ?_,λ_ => ?_⟩)
 . rw[hpl,hql,decide_eq_true ⟨h1,h2⟩]at h; simp at h
 rw[hpl,hql,Int.toNat_natCast]
 refine⟨⟨by omega,by omega,by omega,by omega⟩,⟨0,rfl,by omega,OptG.start boxC V1 _ _ rfl⟩,?_⟩
 rintro⟨t,o⟩ V2 l2 ⟨k,rfl,hk,ho⟩
 dsimp only at ho ⊢
 rw[Int.toNat_natCast]
 refine⟨λhlt => ?_,λhge b' V3 l3 hb => ?_⟩
 . simp only[decide_eq_true_eq]at hlt
   have hk':k<a.length:=by omega
   obtain⟨hb3,hx3,hs3,k3⟩:=(hp.le (View.le_trans l1 l2)).at hk'
   obtain⟨hb4,hx4,hs4,k4⟩:=(hq.le (View.le_trans l1 l2)).at (i:=k) (by omega)
   refine⟨hb3,_,hx3,hs3,hb4,_,hx4,hs4,(C07 k3 k4).mono λv V3 l3 hv=>⟨_,hv,⟨by omega,by omega⟩,?_⟩⟩
   rw[i64w (by omega) (by omega)]
   have ho3:=ho.le (boxC.le l3)
   exact⟨ho3.room hk',⟨k+1,by omega,by omega,ho3.next hk' rfl ⟨rfl,Bk.mul_ok _ _⟩⟩,by omega⟩
 . simp only[decide_eq_false_iff_not]at hge
   have hk':k=a.length:=by omega
   subst hk'
   exact⟨_,rfl,C03 (F:=λi=>(nthB a i).mul (nthB b i)) hb ho λp hp=>F07 hp⟩
theorem X13{V:View}{p q:Sl}{a b:List Bk}(hp:u01 V p a)(hq:u01 V q b)(hf:fitL a b) :
 a00 prog d0c #[p.v,q.v] V λv V'=>∃r:Sl,v = .tuple #[r.v,.int .i64 0]/\u01 V' r (Z0v a b):=by
 have hpl:=hp.len
 have hql:=hq.len
 obtain⟨h1,h2⟩:=hf
 refine M0b p q V _ (λ_ x V'=>∃k:Nat,x.t7=(k:Int)/\k<=a.length/\OptG 4 boxC V' x.o14 a.length (seqG (λi=>(nthB a i).mul (nthB b i)) k)) (λ_ x _=>(a.length-x.t7).toNat)
  ((J0m p q).mono λv V1 l1 hv=>⟨_,hv,λh => ?_,λ_ => ?_⟩)
 . rw[hpl,hql,decide_eq_true ⟨h1,h2⟩]at h; simp at h
 rw[hpl,hql,Int.toNat_natCast]
 refine⟨⟨by omega,by omega,by omega,by omega⟩,⟨0,rfl,by omega,OptG.start boxC V1 _ _ rfl⟩,?_⟩
 rintro⟨t,o⟩ V2 l2 ⟨k,rfl,hk,ho⟩
 dsimp only at ho ⊢
 rw[Int.toNat_natCast]
 refine⟨λhlt => ?_,λhge b' V3 l3 hb => ?_⟩
 . simp only[decide_eq_true_eq]at hlt
   have hk':k<a.length:=by omega
   obtain⟨hb3,hx3,hs3,k3⟩:=(hp.le (View.le_trans l1 l2)).at hk'
   obtain⟨hb4,hx4,hs4,k4⟩:=(hq.le (View.le_trans l1 l2)).at (i:=k) (by omega)
   refine⟨hb3,_,hx3,hs3,hb4,_,hx4,hs4,(z0h k3 k4).mono λv V3 l3 hv=>⟨_,hv,⟨by omega,by omega⟩,?_⟩⟩
   rw[i64w (by omega) (by omega)]
   have ho3:=ho.le (boxC.le l3)
   exact⟨ho3.room hk',⟨k+1,by omega,by omega,ho3.next hk' rfl ⟨rfl,Bk.mul_ok _ _⟩⟩,by omega⟩
 . simp only[decide_eq_false_iff_not]at hge
   have hk':k=a.length:=by omega
   subst hk'
   exact⟨_,rfl,C03 (F:=λi=>(nthB a i).mul (nthB b i)) hb ho λp hp=>F07 hp⟩
theorem x0v{V:View}{p q:Sl}{a b:List Bk}(hp:u01 V p a)(hq:u01 V q b)(hf:fitL a b) :
 a00 prog s0a #[p.v,q.v] V λv V'=>∃r:Sl,v = .tuple #[r.v,.int .i64 0]/\u01 V' r (q13 a b):=by
 have hpl:=hp.len
 have hql:=hq.len
 obtain⟨h1,h2⟩:=hf
 refine W09 p q V _ (λ_ x V'=>∃k:Nat,x.t21=(k:Int)/\k<=a.length/\OptG 4 boxC V' x.o18 a.length (seqG (λj=>W0b a b j (a.length-1)) k)) (λ_ x _=>(a.length-x.t21).toNat)
  (λc x V'=>∃k i:Nat,c.t21=(k:Int)/\x.t10=(i:Int)/\1<=i/\i<=a.length/\x.o9=(W0b a b k (i-1)).v/\OptG 4 boxC V' x.o18 a.length (seqG (λj=>W0b a b j (a.length-1)) k)) (λ_ x _=>(a.length-x.t10).toNat)
  ((D0t p q).mono λv V1 l1 hv=>⟨_,hv,λh => ?_,λ_ => ?_⟩)
 . rw[hpl,hql,decide_eq_true ⟨h1,h2⟩]at h; simp at h
 rw[hpl,hql,Int.toNat_natCast]
 refine⟨⟨by omega,by omega,by omega,by omega⟩,⟨0,rfl,by omega,OptG.start boxC V1 _ _ rfl⟩,?_⟩
 rintro⟨t,o⟩ V2 l2 ⟨k,rfl,hk,ho⟩
 dsimp only at ho ⊢
 have hp2:=hp.le (View.le_trans l1 l2)
 have hq2:=hq.le (View.le_trans l1 l2)
 rw[Int.toNat_natCast]
 refine⟨λhlt => ?_,λhge b' V3 l3 hb => ?_⟩
 . simp only[decide_eq_true_eq]at hlt
   have hk':k<a.length:=by omega
   obtain⟨hb3,hx3,hs3,k3⟩:=hp2.at (i:=0) (by omega)
   obtain⟨hb4,hx4,hs4,k4⟩:=hq2.at (i:=k) (by omega)
   rw[<-h1]at hb4
   refine⟨hb3,_,hx3,hs3,by rw[<-h1]; exact hb4,_,hx4,hs4,(C07 k3 k4).mono λv V3 l3 hv=>⟨_,hv,⟨k,1,rfl,rfl,by omega,by omega,rfl,ho.le (boxC.le l3)⟩,?_⟩⟩
   rintro⟨ti,sm,o5⟩ V4 l4 ⟨k',i,hkk,rfl,hi1,hi,hsm,ho5⟩
   obtain rfl:k'=k:=by have:(k:Int)=(k':Int):=hkk; omega
   dsimp only at hsm ho5 ⊢
   subst hsm
   refine⟨λhlt2 => ?_,λhge2 => ?_⟩
   . simp only[decide_eq_true_eq]at hlt2
     have hi':i<a.length:=by omega
     have hq5:(k'+a.length-i)%a.length<a.length:=Nat.mod_lt _ (by omega)
     rw[m15 hi' hk' (by omega)]
     obtain⟨hb5,hx5,hs5,k5⟩:=(hp2.le (View.le_trans l3 l4)).at hi'
     obtain⟨hb6,hx6,hs6,k6⟩:=(hq2.le (View.le_trans l3 l4)).at (i:=(k'+a.length-i)%a.length) (by omega)
     rw[Int.toNat_natCast,Int.toNat_natCast]
     refine⟨hb5,_,hx5,hs5,by omega,hb6,_,hx6,hs6,(C07 k5 k6).mono λv V5 l5 hv=>⟨_,hv,?_⟩⟩
     refine(y08 (K0m _ _ _ _) (Bk.mul_ok _ _)).mono λv V6 l6 hv=>⟨_,hv,?_⟩
     rw[i64w (by omega) (by omega)]
     refine⟨⟨k',i+1,rfl,by omega,by omega,by omega,?_,ho5.le (boxC.le (View.le_trans l5 l6))⟩,by omega⟩
     have e:i+1-1=(i-1)+1:=by omega
     have e2:i-1+1=i:=by omega
     rw[e,W0b,e2]
   . simp only[decide_eq_false_iff_not]at hge2
     obtain rfl:i=a.length:=by omega
     rw[i64w (by omega) (by omega)]
     exact⟨⟨by omega,by omega⟩,ho5.room hk',⟨k'+1,by omega,by omega,ho5.next hk' rfl ⟨rfl,K0m _ _ _ _⟩⟩,by omega⟩
 . simp only[decide_eq_false_iff_not]at hge
   have hk':k=a.length:=by omega
   subst hk'
   exact⟨_,rfl,C03 (F:=λj=>W0b a b j (a.length-1)) hb ho λp hp=>F07 hp⟩
theorem y0v{V:View}{p q:Sl}{a b:List Bk}(hp:u01 V p a)(hq:u01 V q b)(hf:fitL a b) :
 a00 prog t0a #[p.v,q.v] V λv V'=>∃r:Sl,v = .tuple #[r.v,.int .i64 0]/\u01 V' r (q13 a b):=by
 have hpl:=hp.len
 have hql:=hq.len
 obtain⟨h1,h2⟩:=hf
 refine Y09 p q V _ (λ_ x V'=>∃k:Nat,x.t7=(k:Int)/\k<=a.length/\OptG 4 boxC V' x.o15 a.length (seqG (λj=>W0b a b j (a.length-1)) k)) (λ_ x _=>(a.length-x.t7).toNat)
  (λc x V'=>∃k i:Nat,c.t7=(k:Int)/\x.t8=(i:Int)/\1<=i/\i<=a.length/\OptG 4 boxC V' x.o15 a.length (λj=>if j=k then some (W0b a b k (i-1))else seqG (λj=>W0b a b j (a.length-1)) k j)) (λ_ x _=>(a.length-x.t8).toNat)
  ((J0m p q).mono λv V1 l1 hv=>⟨_,hv,λh => ?_,λ_ => ?_⟩)
 . rw[hpl,hql,decide_eq_true ⟨h1,h2⟩]at h; simp at h
 rw[hpl,hql,Int.toNat_natCast]
 refine⟨⟨by omega,by omega,by omega,by omega⟩,⟨0,rfl,by omega,OptG.start boxC V1 _ _ rfl⟩,?_⟩
 rintro⟨t,o⟩ V2 l2 ⟨k,rfl,hk,ho⟩
 dsimp only at ho ⊢
 have hp2:=hp.le (View.le_trans l1 l2)
 have hq2:=hq.le (View.le_trans l1 l2)
 rw[Int.toNat_natCast]
 refine⟨λhlt => ?_,λhge b' V3 l3 hb => ?_⟩
 . simp only[decide_eq_true_eq]at hlt
   have hk':k<a.length:=by omega
   obtain⟨hb3,hx3,hs3,k3⟩:=hp2.at (i:=0) (by omega)
   obtain⟨hb4,hx4,hs4,k4⟩:=hq2.at (i:=k) (by omega)
   refine⟨hb3,_,hx3,hs3,hb4,_,hx4,hs4,(z0h k3 k4).mono λv V3 l3 hv=>⟨_,hv,⟨by omega,by omega⟩,(ho.le (boxC.le l3)).room hk',⟨k,1,rfl,rfl,by omega,by omega,(ho.le (boxC.le l3)).set hk' rfl ⟨rfl,Bk.mul_ok _ _⟩⟩,?_⟩⟩
   rintro⟨ti,o5⟩ V4 l4 ⟨k',i,hkk,rfl,hi1,hi,ho5⟩
   obtain rfl:k'=k:=by have:(k:Int)=(k':Int):=hkk; omega
   dsimp only at ho5 ⊢
   refine⟨λhlt2 => ?_,λhge2 => ?_⟩
   . simp only[decide_eq_true_eq]at hlt2
     have hi':i<a.length:=by omega
     have hq5:(k'+a.length-i)%a.length<a.length:=Nat.mod_lt _ (by omega)
     have ew:i64.wrap (0-(i:Int)) = -(i:Int):=by rw[i64w (by omega) (by omega)]; omega
     rw[ew]
     obtain⟨hb5,hx5,hs5,k5⟩:=(hp2.le (View.le_trans l3 l4)).at hi'
     obtain⟨w,⟨rfl,hwk⟩,hwl,hw⟩:=ho5.get hk' (if_pos rfl)
     refine⟨⟨by omega,by omega⟩,_,hw,hb5,_,hx5,hs5,(d0p (-(i:Int)) hk' (by omega)).mono λv V5 l5 hv=>⟨_,hv,?_⟩⟩
     rw[j13 hi' hk',Int.toNat_natCast]
     obtain⟨hb6,hx6,hs6,k6⟩:=(hq2.le (View.le_trans l3 (View.le_trans l4 l5))).at (i:=(k'+a.length-i)%a.length) (by omega)
     refine⟨hb6,_,hx6,hs6,(z0h k5 k6).mono λv V6 l6 hv=>⟨_,hv,?_⟩⟩
     refine(H0j hwk (Bk.mul_ok _ _)).mono λv V7 l7 hv=>⟨_,hv,⟨by omega,by omega⟩,?_⟩
     rw[i64w (by omega) (by omega)]
     have ho7:=ho5.le (boxC.le (View.le_trans l5 (View.le_trans l6 l7)))
     refine⟨ho7.room hk',⟨k',i+1,rfl,by omega,by omega,by omega,(ho7.set hk' rfl (z:=W0b a b k' (i+1-1)) ⟨?_,K0m _ _ _ _⟩).congr λj _ => ?_⟩,by omega⟩
     . have e:i+1-1=(i-1)+1:=by omega
       have e2:i-1+1=i:=by omega
       rw[e,W0b,e2]; rfl
     . by_cases c:j=k'
       . rw[if_pos c,if_pos c]
       . rw[if_neg c,if_neg c,if_neg c]
   . simp only[decide_eq_false_iff_not]at hge2
     obtain rfl:i=a.length:=by omega
     rw[i64w (by omega) (by omega)]
     exact⟨⟨k'+1,by omega,by omega,ho5.congr λj _=>Y08 (λj=>W0b a b j (a.length-1)) k' j⟩,by omega⟩
 . simp only[decide_eq_false_iff_not]at hge
   have hk':k=a.length:=by omega
   subst hk'
   exact⟨_,rfl,C03 (F:=λj=>W0b a b j (a.length-1)) hb ho λp hp=>F07 hp⟩
theorem Y13{V:View}{s:Sl}{zs:List Bk}{b:Int}(h:u01 V s zs)(hn:zs.length<=64) :
 a00 prog f0c #[s.v,.int .i64 b] V λv V'=>∃r:Sl,v = .tuple #[r.v,.int .i64 0]/\u01 V' r (a0w zs b):=by
 have hl:=h.len
 let F:Nat->Bk:=λp=>nthB zs (preP zs.length (modB b zs.length) p)
 refine J0b s b V _ (λ_ x V'=>∃k:Nat,x.t17=(k:Int)/\k<=zs.length/\OptG 4 boxC V' x.o14 zs.length (λp=>if preP zs.length (modB b zs.length) p<k then some (F p)else none)) (λ_ x _=>(zs.length-x.t17).toNat) ?_
 rw[hl]
 refine⟨λh=>absurd h (by simp; omega),λ_=>⟨⟨by omega,by omega,by omega,by omega⟩,⟨0,rfl,by omega,?_⟩,?_⟩⟩
 . rw[Int.toNat_natCast]
   exact(OptG.zeros (sz:=4) boxC V _ (z0:=zb4) rfl).congr λp _=>by simp
 rintro⟨t,o⟩ V1 l1 ⟨k,rfl,hk,ho⟩
 dsimp only at ho ⊢
 refine⟨λhlt => ?_,λhge b' V3 l3 hb => ?_⟩
 . simp only[decide_eq_true_eq]at hlt
   have hk':k<zs.length:=by omega
   have hm:=p0j b (n:=zs.length) (by omega)
   rw[D0y b hk' (by omega)]
   obtain⟨hb,hx,hs,hkk⟩:=(h.le l1).at hk'
   simp only[Int.toNat_natCast]
   have hq:(k+modB b zs.length)%zs.length<zs.length:=Nat.mod_lt _ (by omega)
   rw[i64w (n:=(k:Int)+1) (by omega) (by omega)]
   refine⟨by omega,by omega,hb,_,hx,hs,⟨by omega,by omega⟩,ho.room hq,⟨k+1,by omega,by omega,(ho.set hq rfl (z:=nthB zs k) ⟨rfl,hkk⟩).congr λp hp => ?_⟩,by omega⟩
   have hpe:=D10 hm hp hk'
   by_cases c:p=(k+modB b zs.length)%zs.length
   . rw[if_pos c]
     have c2:=hpe.2 c
     show _=if _ then some (nthB zs (preP zs.length (modB b zs.length) p))else none
     rw[c2,if_pos (by omega)]
   . rw[if_neg c]
     have c2:preP zs.length (modB b zs.length) p≠k:=λe=>c (hpe.1 e)
     by_cases c3:preP zs.length (modB b zs.length) p<k
     . rw[if_pos c3,if_pos (by omega)]
     . rw[if_neg c3,if_neg (by omega)]
 . simp only[decide_eq_false_iff_not]at hge
   have hk':k=zs.length:=by omega
   subst hk'
   exact⟨_,rfl,C03 (F:=F) hb ho λp hp=>by
    rw[Int.toNat_natCast]at hp
    exact if_pos (E10 (p0j _ (by omega)) hp)⟩
theorem Z13{V:View}{s:Sl}{zs:List Bk}{b:Int}(h:u01 V s zs)(hn:zs.length<=64) :
 a00 prog g0c #[s.v,.int .i64 b] V λv V'=>∃r:Sl,v = .tuple #[r.v,.int .i64 0]/\u01 V' r (a0w zs b):=by
 have hl:=h.len
 let F:Nat->Bk:=λp=>nthB zs (preP zs.length (modB b zs.length) p)
 refine O0b s b V _ (λ_ x V'=>∃k:Nat,x.t7=(k:Int)/\k<=zs.length/\OptG 4 boxC V' x.o14 zs.length (λp=>if preP zs.length (modB b zs.length) p<k then some (F p)else none)) (λ_ x _=>(zs.length-x.t7).toNat)
  ((J0m s s).mono λv V1 l1 hv=>⟨_,hv,λh => ?_,λ_ => ?_⟩)
 . rw[hl,decide_eq_true ⟨rfl,hn⟩]at h; simp at h
 rw[hl]
 refine⟨⟨by omega,by omega,by omega,by omega⟩,⟨0,rfl,by omega,?_⟩,?_⟩
 . rw[Int.toNat_natCast]
   exact(OptG.zeros (sz:=4) boxC V1 _ (z0:=zb4) rfl).congr λp _=>by simp
 rintro⟨t,o⟩ V2 l2 ⟨k,rfl,hk,ho⟩
 dsimp only at ho ⊢
 refine⟨λhlt => ?_,λhge b' V3 l3 hb => ?_⟩
 . simp only[decide_eq_true_eq]at hlt
   have hk':k<zs.length:=by omega
   have hm:=p0j b (n:=zs.length) (by omega)
   obtain⟨hb,hx,hs,hkk⟩:=(h.le (View.le_trans l1 l2)).at hk'
   have hq:(k+modB b zs.length)%zs.length<zs.length:=Nat.mod_lt _ (by omega)
   rw[Int.toNat_natCast]
   refine⟨hb,_,hx,hs,(d0p b hk' (by omega)).mono λv V3 l3 hv=>⟨_,hv,⟨by omega,by omega⟩,?_⟩⟩
   simp only[Int.toNat_natCast]
   rw[i64w (n:=(k:Int)+1) (by omega) (by omega)]
   have ho3:=ho.le (boxC.le l3)
   refine⟨ho3.room hq,⟨k+1,by omega,by omega,(ho3.set hq rfl (z:=nthB zs k) ⟨rfl,hkk⟩).congr λp hp => ?_⟩,by omega⟩
   have hpe:=D10 hm hp hk'
   by_cases c:p=(k+modB b zs.length)%zs.length
   . rw[if_pos c]
     have c2:=hpe.2 c
     show _=if _ then some (nthB zs (preP zs.length (modB b zs.length) p))else none
     rw[c2,if_pos (by omega)]
   . rw[if_neg c]
     have c2:preP zs.length (modB b zs.length) p≠k:=λe=>c (hpe.1 e)
     by_cases c3:preP zs.length (modB b zs.length) p<k
     . rw[if_pos c3,if_pos (by omega)]
     . rw[if_neg c3,if_neg (by omega)]
 . simp only[decide_eq_false_iff_not]at hge
   have hk':k=zs.length:=by omega
   subst hk'
   exact⟨_,rfl,C03 (F:=F) hb ho λp hp=>by
    rw[Int.toNat_natCast]at hp
    exact if_pos (E10 (p0j _ (by omega)) hp)⟩
theorem a14{V:View}{s:Sl}{zs:List Bk}(h:u01 V s zs)(hn:zs.length<=64) :
 a00 prog i0c #[s.v] V λv V'=>∃r:Sl,v = .tuple #[r.v,.int .i64 0]/\u01 V' r (X10 zs):=by
 have hl:=h.len
 refine H0b s V _ (λ_ x V'=>∃k:Nat,x.t14=(k:Int)/\k<=zs.length/\OptG 4 boxC V' x.o11 zs.length (seqG (t0h zs) k)) (λ_ x _=>(zs.length-x.t14).toNat)
  ?_
 rw[hl,Int.toNat_natCast]
 refine⟨λh=>absurd h (by simp; omega),λ_=>⟨⟨by omega,by omega,by omega,by omega⟩,⟨0,rfl,by omega,OptG.start boxC V _ _ rfl⟩,?_⟩⟩
 rintro⟨t,o⟩ V2 L2 ⟨k,rfl,hk,ho⟩
 dsimp only at ho ⊢
 rw[Int.toNat_natCast]
 refine⟨λhlt => ?_,λhge b' V3 l3 hb => ?_⟩
 . simp only[decide_eq_true_eq]at hlt
   have hk':k<zs.length:=by omega
   obtain⟨hb3,hx3,hs3,k3⟩:=(h.le L2).at hk'
   have k0:=(h.le L2).okAt (i:=0) (by omega)
   have t1:=ho.set hk' rfl (z:=nthB zs k) ⟨rfl,k3⟩
   rw[i64w (n:=(k:Int)+1) (by omega) (by omega)]
   refine⟨hb3,_,hx3,hs3,⟨by omega,by omega⟩,ho.room hk',λhp => ?_,λhp => ?_⟩
   . simp only[gt_iff_lt,decide_eq_true_eq]at hp
     obtain⟨j,rfl⟩:∃j,k=j+1:=⟨k-1,by omega⟩
     have ew:i64.wrap (((j+1:Nat):Int)-1)=(j:Int):=by rw[i64w (by omega) (by omega)]; omega
     rw[ew,Int.toNat_natCast]
     obtain⟨w,⟨rfl,hwk⟩,hwl,hw⟩:=t1.get (i:=j) (by omega) (z:=t0h zs j) (by rw[if_neg (by omega)]; exact if_pos (by omega))
     refine⟨⟨by omega,by omega⟩,_,hw,hb3,_,hx3,hs3,(y08 hwk k3).mono λv V3 l3 hv=>⟨_,hv,⟨by omega,by omega⟩,(t1.le (boxC.le l3)).room hk',⟨j+1+1,by omega,by omega,((t1.le (boxC.le l3)).set hk' rfl (z:=t0h zs (j+1)) ⟨rfl,C0w k0 _⟩).congr λp _ => ?_⟩,by omega⟩⟩
     rw[<-Y08 (t0h zs) (j+1) p]
     by_cases c:p=j+1
     . rw[if_pos c,if_pos c]
     . rw[if_neg c,if_neg c,if_neg c]
   . simp only[gt_iff_lt,decide_eq_false_iff_not]at hp
     obtain rfl:k=0:=by omega
     exact⟨⟨0+1,by omega,by omega,t1.congr λp _=>Y08 (t0h zs) 0 p⟩,by omega⟩
 . simp only[decide_eq_false_iff_not]at hge
   have hk':k=zs.length:=by omega
   subst hk'
   exact⟨_,rfl,C03 (F:=t0h zs) hb ho λp hp=>F07 hp⟩
theorem b14{V:View}{s:Sl}{zs:List Bk}(h:u01 V s zs)(hn:zs.length<=64) :
 a00 prog j0c #[s.v] V λv V'=>∃r:Sl,v = .tuple #[r.v,.int .i64 0]/\u01 V' r (X10 zs):=by
 have hl:=h.len
 refine P0b s V _ (λ_ x V'=>∃k:Nat,x.t5=(k:Int)/\k<=zs.length/\OptG 4 boxC V' x.o12 zs.length (seqG (t0h zs) k)) (λ_ x _=>(zs.length-x.t5).toNat)
  ((J0m s s).mono λv V1 l1 hv=>⟨_,hv,λh => ?_,λ_ => ?_⟩)
 . rw[hl,decide_eq_true ⟨rfl,hn⟩]at h; simp at h
 rw[hl,Int.toNat_natCast]
 refine⟨⟨by omega,by omega,by omega,by omega⟩,⟨0,rfl,by omega,OptG.start boxC V1 _ _ rfl⟩,?_⟩
 rintro⟨t,o⟩ V2 l2 ⟨k,rfl,hk,ho⟩
 have L2:=View.le_trans l1 l2
 dsimp only at ho ⊢
 rw[Int.toNat_natCast]
 refine⟨λhlt => ?_,λhge b' V3 l3 hb => ?_⟩
 . simp only[decide_eq_true_eq]at hlt
   have hk':k<zs.length:=by omega
   obtain⟨hb3,hx3,hs3,k3⟩:=(h.le L2).at hk'
   have k0:=(h.le L2).okAt (i:=0) (by omega)
   have t1:=ho.set hk' rfl (z:=nthB zs k) ⟨rfl,k3⟩
   rw[i64w (n:=(k:Int)+1) (by omega) (by omega)]
   refine⟨hb3,_,hx3,hs3,⟨by omega,by omega⟩,ho.room hk',λhp => ?_,λhp => ?_⟩
   . simp only[gt_iff_lt,decide_eq_true_eq]at hp
     obtain⟨j,rfl⟩:∃j,k=j+1:=⟨k-1,by omega⟩
     have ew:i64.wrap (((j+1:Nat):Int)-1)=(j:Int):=by rw[i64w (by omega) (by omega)]; omega
     rw[ew,Int.toNat_natCast]
     obtain⟨w,⟨rfl,hwk⟩,hwl,hw⟩:=t1.get (i:=j) (by omega) (z:=t0h zs j) (by rw[if_neg (by omega)]; exact if_pos (by omega))
     refine⟨⟨by omega,by omega⟩,_,hw,hb3,_,hx3,hs3,(H0j hwk k3).mono λv V3 l3 hv=>⟨_,hv,⟨by omega,by omega⟩,(t1.le (boxC.le l3)).room hk',⟨j+1+1,by omega,by omega,((t1.le (boxC.le l3)).set hk' rfl (z:=t0h zs (j+1)) ⟨rfl,C0w k0 _⟩).congr λp _ => ?_⟩,by omega⟩⟩
     rw[<-Y08 (t0h zs) (j+1) p]
     by_cases c:p=j+1
     . rw[if_pos c,if_pos c]
     . rw[if_neg c,if_neg c,if_neg c]
   . simp only[gt_iff_lt,decide_eq_false_iff_not]at hp
     obtain rfl:k=0:=by omega
     exact⟨⟨0+1,by omega,by omega,t1.congr λp _=>Y08 (t0h zs) 0 p⟩,by omega⟩
 . simp only[decide_eq_false_iff_not]at hge
   have hk':k=zs.length:=by omega
   subst hk'
   exact⟨_,rfl,C03 (F:=t0h zs) hb ho λp hp=>F07 hp⟩
theorem E0w{s t:Sk}(hs:s.ok)(ht:t.ok){q:Rat}(h:InE ⟨0,q⟩ s.set):InE ⟨0,q⟩ (s.hull t).set :=
 ⟨(Y0s (Sk.hull_ok hs ht).lo hs.lo (by show min s.lo t.lo<=s.lo; omega)).trans h.1,h.2.trans (Y0s hs.hi (Sk.hull_ok hs ht).hi (by show s.hi<=max s.hi t.hi; omega))⟩
def I0e(_:View)(x:List Value)(b:Bool):Prop:=x=[.bool b]
theorem w0g(V:View)(b:Bool):I0e V [.bool b] b:=rfl
def p08(V:View)(s:Sl)(bs:List Bool):Prop:=l01 1 I0e V s bs
theorem p08.le{V V':View}(hle:V.le V'){s:Sl}{bs:List Bool}(h:p08 V s bs):p08 V' s bs:=l01.le (P:=I0e) (V:=V) (V':=V') (λ_ _ h=>h) hle h
theorem m0a{V:View}{p:Option Addr}{v:Value}(h:V.has p [v]):V.load p=some v:=by
 have:=h 0 v rfl
 cases p with
 | none=>exact this
 | some a=>simpa [Addr.add]using this
theorem L0m{V:View}{g:j02}{n:Nat}(hg:a0e g n)(hn:n<=64) :
 a00 prog U0h #[g.val,.int .i64 (n:Int)] V λv V'=>∃r:Sl,v=r.v/\p08 V' r (s09 n g.from_.toNat g.count.toNat):=by
 obtain⟨h1,h2,h3,h4⟩:=hg
 have hf:g.from_.toNat<n:=by omega
 refine l0h g (n:Int) V _ (λ_ x V'=>0<=x.t11/\x.t11<=g.count/\y01 1 I0e V' x.o8 (s09 n g.from_.toNat x.t11.toNat)) (λ_ x _=>(g.count-x.t11).toNat) ⟨⟨by omega,by omega,by omega,by omega⟩,⟨Int.le_refl 0,h3,?_⟩,?_⟩
 . rw[Int.toNat_natCast]
   show y01 1 I0e V _ (s09 n g.from_.toNat 0)
   rw[Z0o]
   exact y01.replicate rfl (w0g V false) n
 rintro⟨t,o⟩ V1 l1 ⟨h0,ht,hin⟩
 dsimp only at h0 ht hin ⊢
 rw[Int.toNat_natCast]
 refine⟨λhlt => ?_,λhge => ?_⟩
 . simp only[decide_eq_true_eq]at hlt
   have e1:i64.wrap (t+1)=t+1:=i64w (by omega) (by omega)
   have e2:(t+1).toNat=t.toNat+1:=by omega
   have e3:Int.tmod (i64.wrap (g.from_+t)) (n:Int)=(((g.from_.toNat+t.toNat)%n:Nat):Int):=by
    rw[i64w (by omega) (by omega),Int.tmod_eq_emod_of_nonneg (by omega)]
    have:g.from_+t=((g.from_.toNat+t.toNat:Nat):Int):=by omega
    rw[this]; rfl
   have hm:(g.from_.toNat+t.toNat)%n<n:=Nat.mod_lt _ (by omega)
   rw[e3,e1,Int.toNat_natCast]
   have hgl:(s09 n g.from_.toNat t.toNat).length=n:=by simp[s09]
   refine⟨by omega,⟨by omega,by omega⟩,y01.room hin (by rw[hgl]; exact hm),⟨by omega,by omega,?_⟩,by omega⟩
   rw[e2,<-b0t hf (by omega)]
   exact k0b hin (by rw[hgl]; exact hm) rfl (w0g V1 true)
 . simp only[decide_eq_false_iff_not]at hge
   intro b V2 l2 hb
   have e:t=g.count:=by omega
   rw[e]at hin
   exact⟨_,rfl,G02 hb (y01.imp (P:=I0e) (V:=V1) (P':=I0e) (V':=V2) (λ_ _ h=>h) hin) (by simp[s09])⟩
theorem D0g{V:View}(n:Int):a00 prog F0c #[.int .i64 n] V λv _=>v = .bool (lenB n.toNat):=by
 by_cases h0:0<=n
 . exact Y03 h0
 . have e:n.toNat=0:=by omega
   refine C0b n V _ ⟨λh1 => ?_,λ_=>⟨λh=>absurd h (by simp),λ_ => ?_⟩⟩
   . exfalso; simp at h1; omega
   . rw[e]; rfl
instance (g:j02) (n:Int):Decidable (a0e g n):=inferInstanceAs (Decidable (_/\_/\_/\_))
def gtE(g:j02)(n:Int):Int:=if lenB n.toNat=true then(if a0e g n then 0 else 1)else 4
theorem Z0b{V:View}(g:j02)(n:Int):a00 prog C0d #[g.val,.int .i64 n] V λv _=>v = .int .i64 (gtE g n):=by
 refine J0c g n V _ ((D0g n).mono λv V1 l1 hv=>⟨_,hv,λh => ?_,λh=>⟨λh1 => ?_,λh1=>⟨λh2 => ?_,λh2=>⟨λh3 => ?_,λh3=>⟨λh4 => ?_,λh4 => ?_⟩⟩⟩⟩⟩)
 . have:lenB n.toNat=false:=by simpa using h
   unfold gtE; rw[this]; rfl
 all_goals
  have hl:lenB n.toNat=true:=by simpa using h
  unfold gtE; rw[if_pos hl]
 . simp only[decide_eq_true_eq]at h1
   rw[if_neg (λx=>by have:=x.1; omega)]; simp
 . simp only[decide_eq_true_eq]at h2
   rw[if_neg (λx=>by have:=x.2.1; omega)]; simp
 . simp only[decide_eq_true_eq]at h3
   rw[if_neg (λx=>by have:=x.2.2.1; omega)]; simp
 . simp only[decide_eq_true_eq]at h4
   rw[if_neg (λx=>by have:=x.2.2.2; omega)]
 . simp only[decide_eq_false_iff_not]at h1 h2 h3 h4
   rw[if_pos ⟨by omega,by omega,by omega,by omega⟩]
theorem u0k{V:View}(g:j02)(n:Int):a00 prog m0e #[g.val,.int .i64 n] V λv _=>v = .bool (decide (a0e g n)):=by
 refine U0d g n V _ ⟨λh1=>⟨λh2=>⟨λh3 => ?_,λh3 => ?_⟩,λh2 => ?_⟩,λh1 => ?_⟩
 . simp only[decide_eq_true_eq]at h1 h2 h3
   congr 1
   by_cases h4:g.count<=n
   . rw[decide_eq_true h4,decide_eq_true ⟨by omega,h2,by omega,h4⟩]
   . rw[decide_eq_false h4,decide_eq_false (λx=>h4 x.2.2.2)]
 . simp only[decide_eq_false_iff_not]at h3
   rw[decide_eq_false (λx=>h3 (by have:=x.2.2.1; omega))]
 . simp only[decide_eq_false_iff_not]at h2
   rw[decide_eq_false (λx=>h2 x.2.1)]
 . simp only[decide_eq_false_iff_not]at h1
   rw[decide_eq_false (λx=>h1 (by have:=x.1; omega))]
theorem M0m{V:View}{g:j02}{n:Nat}(hg:a0e g n)(hn:n<=64) :
 a00 prog Z0e #[g.val,.int .i64 (n:Int)] V λv V'=>∃r:Sl,v=r.v/\p08 V' r (s09 n g.from_.toNat g.count.toNat):=by
 obtain⟨h1,h2,h3,h4⟩:=hg
 have hf:g.from_.toNat<n:=by omega
 refine y0e g (n:Int) V _ (λ_ x V'=>0<=x.t6/\x.t6<=g.count/\y01 1 I0e V' x.o8 (s09 n g.from_.toNat x.t6.toNat)) (λ_ x _=>(g.count-x.t6).toNat) ⟨⟨by omega,by omega,by omega,by omega⟩,⟨Int.le_refl 0,h3,?_⟩,?_⟩
 . rw[Int.toNat_natCast]
   show y01 1 I0e V _ (s09 n g.from_.toNat 0)
   rw[Z0o]
   exact y01.replicate rfl (w0g V false) n
 rintro⟨t,o⟩ V1 l1 ⟨h0,ht,hin⟩
 dsimp only at h0 ht hin ⊢
 rw[Int.toNat_natCast]
 refine⟨λhlt => ?_,λhge => ?_⟩
 . simp only[decide_eq_true_eq]at hlt
   have e1:i64.wrap (t+1)=t+1:=i64w (by omega) (by omega)
   have e2:(t+1).toNat=t.toNat+1:=by omega
   have e3:Int.tmod (i64.wrap (g.from_+t)) (n:Int)=(((g.from_.toNat+t.toNat)%n:Nat):Int):=by
    rw[i64w (by omega) (by omega),Int.tmod_eq_emod_of_nonneg (by omega)]
    have:g.from_+t=((g.from_.toNat+t.toNat:Nat):Int):=by omega
    rw[this]; rfl
   have hm:(g.from_.toNat+t.toNat)%n<n:=Nat.mod_lt _ (by omega)
   rw[e3,e1,Int.toNat_natCast]
   have hgl:(s09 n g.from_.toNat t.toNat).length=n:=by simp[s09]
   refine⟨by omega,⟨by omega,by omega⟩,y01.room hin (by rw[hgl]; exact hm),⟨by omega,by omega,?_⟩,by omega⟩
   rw[e2,<-b0t hf (by omega)]
   exact k0b hin (by rw[hgl]; exact hm) rfl (w0g V1 true)
 . simp only[decide_eq_false_iff_not]at hge
   intro b V2 l2 hb
   have e:t=g.count:=by omega
   rw[e]at hin
   exact⟨_,rfl,G02 hb (y01.imp (P:=I0e) (V:=V1) (P':=I0e) (V':=V2) (λ_ _ h=>h) hin) (by simp[s09])⟩
theorem g0l{g:j02}{n:Nat}:gtE g n=0↔lenB n=true/\a0e g n:=by
 unfold gtE; rw[Int.toNat_natCast]
 split
 . split
   . exact⟨λ_=>⟨by assumption,by assumption⟩,λ_=>rfl⟩
   . exact⟨λh=>absurd h (by decide),λh=>absurd h.2 (by assumption)⟩
 . exact⟨λh=>absurd h (by decide),λh=>absurd h.1 (by assumption)⟩
theorem e12{n a:Nat}(S T:Nat->Bool)(h:∀p,p<n->T p=if p=a then true else S p):((List.range n).map S).set a true=(List.range n).map T:=by
 apply List.ext_getElem (by simp)
 intro i h1 h2
 have hi:i<n:=by simpa using h2
 simp only[List.getElem_set,List.getElem_map,List.getElem_range]
 rw[h i hi]
 by_cases c:a=i
 . subst c; simp
 . rw[if_neg c,if_neg (λx=>c x.symm)]
theorem A0h{n:Nat}(S T:Nat->Bool)(h:∀p,p<n->S p=T p):(List.range n).map S=(List.range n).map T :=
 List.map_congr_left λp hp=>h p (by simpa using hp)
def nrS(B:Nat->Bool)(n:Nat)(gd:Int)(a b p:Nat):Bool:=if p<a then nrP B n gd p n else if p=a then nrP B n gd a b else false
theorem d14(B:Nat->Bool)(n:Nat)(gd:Int)(a p:Nat):nrS B n gd a n p=nrS B n gd (a+1) 0 p:=by
 unfold nrS
 by_cases c:p<a
 . rw[if_pos c,if_pos (by omega)]
 . rw[if_neg c]
   by_cases c2:p=a
   . subst c2; rw[if_pos rfl,if_pos (by omega)]
   . rw[if_neg c2,if_neg (by omega)]
     split
     . rw[i0w]
     . rfl
theorem e14{B:Nat->Bool}{n:Nat}{gd:Int}{a b:Nat}(h:(B b && !B a&&decide ((cd n a b:Int)<=gd))=false)(p:Nat):nrS B n gd a b p=nrS B n gd a (b+1) p:=by
 unfold nrS; rw[j0w,h,Bool.or_false]
theorem S15{B:Nat->Bool}{n:Nat}{gd:Int}{a b:Nat}(h:(B b && !B a&&decide ((cd n a b:Int)<=gd))=true)(p:Nat):nrS B n gd a (b+1) p=if p=a then true else nrS B n gd a b p:=by
 unfold nrS; rw[j0w,h,Bool.or_true]
 by_cases c:p=a
 . subst c; rw[if_pos rfl,if_neg (by omega),if_pos rfl]
 . rw[if_neg c,if_neg c,if_neg c]
theorem U0i{V V':View}{o:List Value}{l:List Bool}(h:y01 1 I0e V o l):y01 1 I0e V' o l:=y01.imp (P:=I0e) (V:=V) (P':=I0e) (V':=V') (λ_ _ h=>h) h
theorem f12{V:View}{g:j02}{n:Nat}{gd:Int}(hg:a0e g n)(hn:n<=64) :
 a00 prog A0g #[g.val,.int .i64 (n:Int),.int .i64 gd] V λv V'=>∃r:Sl,v=r.v/\p08 V' r ((List.range n).map λk=>nrP (inG n g.from_.toNat g.count.toNat) n gd k n):=by
 refine w0f g n gd V _
  (λ_ x V'=>∃a:Nat,x.t9=(a:Int)/\a<=n/\y01 1 I0e V' x.o16 ((List.range n).map (nrS (inG n g.from_.toNat g.count.toNat) n gd a 0))) (λ_ x _=>(n-x.t9).toNat)
  (λc x V'=>∃a b:Nat,c.t9=(a:Int)/\x.t10=(b:Int)/\a<n/\b<=n/\y01 1 I0e V' x.o16 ((List.range n).map (nrS (inG n g.from_.toNat g.count.toNat) n gd a b))) (λ_ x _=>(n-x.t10).toNat)
  (λc x _=>x.t11=if c.t9<c.t10 then c.t10-c.t9 else c.t9-c.t10)
  (λc x _=>x.t11=((cd n c.t9.toNat c.t10.toNat:Nat):Int)) ?_
 generalize hBd:inG n g.from_.toNat g.count.toNat=B
 refine⟨⟨by omega,by omega,by omega,by omega⟩,(M0m hg hn).mono λv V1 l1 ⟨r,hv,hr⟩=>⟨r,hv,⟨0,rfl,by omega,?_⟩,?_⟩⟩
 . rw[Int.toNat_natCast]
   have e:(List.range n).map (nrS B n gd 0 0)=List.replicate n false:=by
    apply List.ext_getElem (by simp)
    intro i h1 h2
    simp only[List.getElem_map,List.getElem_range,List.getElem_replicate]
    unfold nrS
    rw[if_neg (by omega)]
    split
    . rw[i0w]
    . rfl
   show y01 1 I0e V1 _ _
   rw[e]; exact y01.replicate rfl (w0g V1 false) n
 have hrl:r.len=n:=by have:=hr.len; simpa [s09]using this
 have hgl:s09 n g.from_.toNat g.count.toNat=(List.range n).map B:=by rw[<-hBd]; rfl
 rw[hgl]at hr
 rintro⟨t,o⟩ V2 l2 ⟨a,rfl,ha,ho⟩
 dsimp only at ho ⊢
 refine⟨λh1 => ?_,λh1 b V6 l6 hb => ?_⟩
 . simp only[decide_eq_true_eq]at h1
   refine⟨⟨a,0,rfl,rfl,by omega,by omega,ho⟩,?_⟩
   rintro⟨t2,o2⟩ V3 l3 ⟨a',b,ha',rfl,han,hb,ho2⟩
   dsimp only at ha' ho2 ⊢
   have ea:a'=a:=by omega
   subst ea
   refine⟨λh2 => ?_,λh2 => ?_⟩
   . simp only[decide_eq_true_eq]at h2
     have w1:i64.wrap ((a':Int)-(b:Int))=(a':Int)-b:=i64w (by omega) (by omega)
     rw[w1]
     refine⟨⟨λh3 => ?_,λh3 => ?_⟩,?_⟩
     . simp only[decide_eq_true_eq]at h3
       show i64.wrap (0-((a':Int)-b))=if(a':Int)<b then(b:Int)-a' else a'-b
       rw[i64w (by omega) (by omega),if_pos (by omega)]; omega
     . simp only[decide_eq_false_iff_not]at h3
       show(a':Int)-b=if(a':Int)<b then(b:Int)-a' else a'-b
       rw[if_neg (by omega)]
     rintro⟨f⟩ V4 l4 hf
     have hf:f=if(a':Int)<b then(b:Int)-a' else a'-b:=hf
     dsimp only
     have f0:0<=f/\f<n:=by rw[hf]; split<;>omega
     have w2:i64.wrap ((n:Int)-f)=(n:Int)-f:=i64w (by omega) (by omega)
     rw[w2]
     have hcd:((cd n a' b:Nat):Int)=if(n:Int)-f<f then n-f else f:=by
      unfold cd
      rw[hf]
      by_cases c:a'<b
      . rw[if_pos c,if_pos (by omega:(a':Int)<b)]
        split
        . rw[if_pos (by omega)]; omega
        . rw[if_neg (by omega)]; omega
      . rw[if_neg c,if_neg (by omega:¬(a':Int)<b)]
        split
        . rw[if_pos (by omega)]; omega
        . rw[if_neg (by omega)]; omega
     refine⟨⟨λh3 => ?_,λh3 => ?_⟩,?_⟩
     . simp only[decide_eq_true_eq]at h3
       show(n:Int)-f=((cd n ((a':Int)).toNat ((b:Int)).toNat:Nat):Int)
       rw[Int.toNat_natCast,Int.toNat_natCast,hcd,if_pos h3]
     . simp only[decide_eq_false_iff_not]at h3
       show f=((cd n ((a':Int)).toNat ((b:Int)).toNat:Nat):Int)
       rw[Int.toNat_natCast,Int.toNat_natCast,hcd,if_neg h3]
     rintro⟨f3⟩ V5 l5 hf3
     have hf3:f3=((cd n ((a':Int)).toNat ((b:Int)).toNat:Nat):Int):=hf3
     rw[Int.toNat_natCast,Int.toNat_natCast]at hf3
     subst hf3
     dsimp only
     have hr5:=p08.le (View.le_trans l2 (View.le_trans l3 (View.le_trans l4 l5))) hr
     obtain⟨hb1,x1,hx1,_,hh1,_⟩:=l01.get hr5 (t:=(b:Int)) (by omega) (z:=B b) (by rw[Int.toNat_natCast]; simp[show b<n by omega])
     obtain⟨hb2,x2,hx2,_,hh2,_⟩:=l01.get hr5 (t:=(a':Int)) (by omega) (z:=B a') (by rw[Int.toNat_natCast]; simp[show a'<n by omega])
     have w3:i64.wrap ((b:Int)+1)=(b:Int)+1:=i64w (by omega) (by omega)
     rw[w3,Int.toNat_natCast,Int.toNat_natCast]
     have hlen:((List.range n).map (nrS B n gd a' b)).length=n:=by simp
     have keep:(B b && !B a'&&decide ((cd n a' b:Int)<=gd))=false->(∃a2 b2:Nat,(a':Int)=a2/\(b:Int)+1=b2/\a2<n/\b2<=n/\y01 1 I0e V5 o2 ((List.range n).map (nrS B n gd a2 b2))):=by
      intro h
      refine⟨a',b+1,rfl,by omega,by omega,by omega,?_⟩
      rw[<-A0h (nrS B n gd a' b) _ (λp _=>e14 h p)]
      exact U0i ho2
     refine⟨hb1,B b,m0a (by rw[show x1=_ from hx1]at hh1; rw[Int.toNat_natCast]at hh1; exact hh1),λk1 => ?_,λk1 => ?_⟩
     . refine⟨hb2,B a',m0a (by rw[show x2=_ from hx2]at hh2; rw[Int.toNat_natCast]at hh2; exact hh2),λk2=>⟨λk3 => ?_,λk3 => ?_⟩,λk2 => ?_⟩
       . have hit:(B b && !B a'&&decide ((cd n a' b:Int)<=gd))=true:=by rw[k1,k2,k3]; rfl
         refine⟨⟨by omega,by omega⟩,y01.room ho2 (by rw[hlen]; omega),⟨a',b+1,rfl,by omega,by omega,by omega,?_⟩,by omega⟩
         have:=k0b (U0i (V':=V5) ho2) (i:=a') (by rw[hlen]; omega) (y:=[.bool true]) rfl (w0g V5 true)
         rw[e12 _ (nrS B n gd a' (b+1)) (λp _=>S15 hit p)]at this
         exact this
       . exact⟨keep (by rw[k1,k2,k3]; rfl),by omega⟩
       . exact⟨keep (by rw[k1,k2]; rfl),by omega⟩
     . exact⟨keep (by rw[k1]; rfl),by omega⟩
   . simp only[decide_eq_false_iff_not]at h2
     have eb:b=n:=by omega
     subst eb
     rw[i64w (by omega) (by omega)]
     refine⟨⟨a'+1,by omega,by omega,?_⟩,by omega⟩
     rw[<-A0h (nrS B b gd a' b) _ (λp _=>d14 B b gd a' p)]
     exact U0i ho2
 . simp only[decide_eq_false_iff_not]at h1
   have ea:a=n:=by omega
   subst ea
   have e:(List.range a).map (nrS B a gd a 0)=(List.range a).map λk=>nrP B a gd k a :=
    A0h _ _ λp hp=>by unfold nrS; rw[if_pos hp]
   rw[e]at ho
   rw[Int.toNat_natCast]
   exact⟨_,rfl,G02 hb (U0i ho) (by simp)⟩
def intC(_:View)(x:List Value)(z:Int):Prop:=x=[.int .i64 z]
def b0h(V:View)(s:Sl)(l:List Int):Prop:=l01 1 intC V s l
theorem b0h.le{V V':View}(hle:V.le V'){s:Sl}{l:List Int}(h:b0h V s l):b0h V' s l:=l01.le (P:=intC) (V:=V) (V':=V') (λ_ _ h=>h) hle h
theorem x0g{V V':View}{o:List Value}{l:List Int}(h:y01 1 intC V o l):y01 1 intC V' o l:=y01.imp (P:=intC) (V:=V) (P':=intC) (V':=V') (λ_ _ h=>h) h
theorem F0w{V:View}{p:Option Addr}{v:Value}(h:V.has p [v]):V.load p=some v:=m0a h
theorem I0j{V:View}{b:Nat}{v:Value}(h:V b=some (List.toArray [v])):V.load (some (Addr.mk b 0 none))=some v:=by simp[View.load,h]
theorem g12{V:View}{b:Nat}{v:Value}(h:V b=some #[v]):V.has (some (Addr.mk b 0 none)) [v]:=X0b (l:=[v]) h
theorem i12{s:Sk}{q:Rat}(h:s.ok)(hh:s.has q=true):s.proper:=by
 obtain⟨h1,h2⟩:=(X11 s q).1 hh
 refine⟨w15 h.lo h.hi λg => ?_,λe => ?_,λe => ?_⟩
 . rcases Eb.LT.weak (b:=⟨0,q⟩) g with p|p
   . exact h2 p
   . exact h1 p
 . rw[e,w13]at h1
   exact h1 (.inl (show(0:Int)<1 by decide))
 . rw[e,d0w]at h2
   exact h2 (.inl (show(-1:Int)<0 by decide))
theorem j12{b:Bk}{z:Cq}(h:b.ok)(hh:b.has z=true):b.proper:=by
 have hh:(b.re.has z.re&&b.im.has z.im)=true:=hh
 rw[Bool.and_eq_true]at hh
 exact⟨i12 h.re hh.1,i12 h.im hh.2⟩
theorem k12{b c:Bk}{z:Cq}(hb:b.ok)(hc:c.ok)(h:b.has z=true):(b.hull c).has z=true:=by
 have h:(b.re.has z.re&&b.im.has z.im)=true:=h
 rw[Bool.and_eq_true]at h
 show((b.re.hull c.re).has z.re&&(b.im.hull c.im).has z.im)=true
 rw[Bool.and_eq_true]
 exact⟨W0o.2 (E0w hb.re hc.re (W0o.1 h.1)),W0o.2 (E0w hb.im hc.im (W0o.1 h.2))⟩
def zBx:Bk:=ofB Cq.zero
theorem N0m:zBx.ok:=l0a _
theorem m12{V:View}:a00 prog K08 #[.int .i64 0,.int .i64 1] V λv _=>v=zBx.v.val:=by
 refine u08 0 1 V _ ((i0a (by decide) (by decide) (by decide) (by decide) (by decide) (by decide) (by decide)).mono λv V1 l1 ⟨r,hv,hr⟩=>⟨r,0,hv,?_⟩)
 have hr:K05 V1 r ⟨((0:Int):Rat) / ((1:Int):Rat),((0:Int):Rat) / ((1:Int):Rat)⟩:=hr
 rw[H13]at hr
 exact(G0j _ hr (Nat.le_trans f0e (by decide))).mono λv V2 l2 hv=>⟨_,hv,rfl⟩
theorem N14{V:View}{n:Nat}(h1:1<=n)(hn:n<=64):a00 prog K08 #[.int .i64 1,.int .i64 (n:Int)] V λv _=>v=(ofB (q0h n)).v.val:=by
 refine u08 1 n V _ ((i0a (by decide) (by decide) (by decide) (by decide) (by omega) (by omega) (by omega)).mono λv V1 l1 ⟨r,hv,hr⟩=>⟨r,0,hv,?_⟩)
 exact(G0j _ hr (Nat.le_trans (T0v h1 hn) (by decide))).mono λv V2 l2 hv=>⟨_,hv,rfl⟩
theorem O0f{V:View}:a00 prog G0d #[.int .i64 0] V λv _=>v=zBx.v.val :=
 l0d 0 V _ (U0y.mono λv V1 l1 ⟨r,hv,hr⟩=>⟨r,hv,(z08 hr (Nat.le_trans f0e (by decide))).mono λv V2 l2 hv=>⟨_,hv,rfl⟩⟩)
theorem n12{V:View}{n:Nat}(h1:1<=n)(hn:n<=64):a00 prog o0e #[.int .i64 (n:Int)] V λv _=>v=(ofB (q0h n)).v.val:=by
 refine S0d n V _ ((E0e (by omega) (by omega) (by omega) (by omega) (by omega) (by omega) (by omega)).mono λv V1 l1 ⟨r,hv,hr⟩=>⟨r,0,hv,?_⟩)
 exact(z08 hr (Nat.le_trans (T0v h1 hn) (by decide))).mono λv V2 l2 hv=>⟨_,hv,rfl⟩
theorem p12{V:View}{s:Sl}{zs:List Bk}(h:u01 V s zs)(h1:1<=zs.length)(hn:zs.length<=64) :
 a00 prog w0b #[s.v] V λv _=>v = .tuple #[(J0y zs (zs.length-1)).v.val,.int .i64 0]:=by
 have hl:=h.len
 refine M0a s V _ (λ_ x V'=>∃k:Nat,x.t18=(k:Int)/\k<=zs.length/\(k≠0->x.o4=(J0y zs (k-1)).v)) (λ_ x _=>(zs.length-x.t18).toNat)
  ?_
 rw[hl]
 refine⟨λh=>absurd h (by simp; omega),λ_=>⟨λh0=>absurd h0 (by rw[beq_iff_eq]; omega),λ_=>⟨⟨0,rfl,by omega,λx=>absurd rfl x⟩,?_⟩⟩⟩
 rintro⟨t,o2,o⟩ V4 L4 ⟨k,rfl,hk,ho⟩
 dsimp only at ho ⊢
 rw[Int.toNat_natCast]
 refine⟨λhlt => ?_,λhge => ?_⟩
 . simp only[decide_eq_true_eq]at hlt
   have hk':k<zs.length:=by omega
   obtain⟨hb3,hx3,hs3,k3⟩:=(h.le L4).at hk'
   rw[i64w (by omega) (by omega)]
   refine⟨hb3,_,hx3,hs3,(c0b k3).mono λv V5 l5 hv=>⟨_,hv,(C07 k3 (B08 k3)).mono λv V6 l6 hv=>⟨_,hv,λh0 => ?_,λh0 => ?_⟩⟩⟩
   . have h0:k=0:=by have:(k:Int)=0:=(by simpa using h0); omega
     subst h0
     exact⟨⟨0+1,by omega,by omega,λ_=>rfl⟩,by omega⟩
   . have h0:k≠0:=by intro e; subst e; simp at h0
     rw[ho h0]
     refine(y08 (D0w _ _) (Bk.mul_ok _ _)).mono λv V7 l7 hv=>⟨_,hv,⟨k+1,by omega,by omega,λ_ => ?_⟩,by omega⟩
     obtain⟨j,rfl⟩:∃j,k=j+1:=⟨k-1,by omega⟩
     rfl
 . simp only[decide_eq_false_iff_not]at hge
   have hk':k=zs.length:=by omega
   rw[ho (by omega),hk']
theorem q12{V:View}{s:Sl}{zs:List Bk}(h:u01 V s zs)(h1:1<=zs.length)(hn:zs.length<=64)(hP:∀i,i<zs.length->(nthB zs i).proper) :
 a00 prog x0b #[s.v] V λv _=>v = .tuple #[(J0y zs (zs.length-1)).v.val,.int .i64 0]:=by
 have hl:=h.len
 refine P0a s V _ (λ_ x V'=>∃k:Nat,x.t5=(k:Int)/\k<=zs.length/\(k≠0->x.o4=(J0y zs (k-1)).v)) (λ_ x _=>(zs.length-x.t5).toNat)
  ((J0m s s).mono λv V1 l1 hv=>⟨_,hv,λh => ?_,λ_ => ?_⟩)
 . rw[hl,decide_eq_true ⟨rfl,hn⟩]at h; simp at h
 rw[hl]
 refine O0f.mono λv V2 l2 hv=>⟨_,hv,⟨0,rfl,by omega,λx=>absurd rfl x⟩,?_⟩
 rintro⟨t,o2,o⟩ V4 l4 ⟨k,rfl,hk,ho⟩
 have L4:=View.le_trans l1 (View.le_trans l2 l4)
 dsimp only at ho ⊢
 rw[Int.toNat_natCast]
 refine⟨λhlt => ?_,λhge => ?_⟩
 . simp only[decide_eq_true_eq]at hlt
   have hk':k<zs.length:=by omega
   obtain⟨hb3,hx3,hs3,k3⟩:=(h.le L4).at hk'
   rw[i64w (by omega) (by omega)]
   refine⟨hb3,_,hx3,hs3,hb3,_,hx3,hs3,(e0l k3 (hP k hk')).mono λv V5 l5 hv=>⟨_,hv,(z0h k3 (B08 k3)).mono λv V6 l6 hv=>⟨_,hv,λh0 => ?_,λh0 => ?_⟩⟩⟩
   . have h0:k=0:=by have:(k:Int)=0:=(by simpa using h0); omega
     subst h0
     exact⟨⟨0+1,by omega,by omega,λ_=>rfl⟩,by omega⟩
   . have h0:k≠0:=by intro e; subst e; simp at h0
     rw[ho h0]
     refine(H0j (D0w _ _) (Bk.mul_ok _ _)).mono λv V7 l7 hv=>⟨_,hv,⟨k+1,by omega,by omega,λ_ => ?_⟩,by omega⟩
     obtain⟨j,rfl⟩:∃j,k=j+1:=⟨k-1,by omega⟩
     rfl
 . simp only[decide_eq_false_iff_not]at hge
   have hk':k=zs.length:=by omega
   rw[ho (by omega),hk']
theorem T15{V:View}{s:Sl}{zs:List Bk}(h:u01 V s zs)(h2:2<=zs.length)(hn:zs.length<=64) :
 a00 prog i06 #[s.v] V λv _=>v = .tuple #[(estB (ofB (q0h 2)) zs).v.val,.int .i64 0]:=by
 have hl:=h.len
 refine I07 s V _ ?_
 rw[hl]
 obtain⟨b0,x0,s0,k0⟩:=h.at (i:=0) (by omega)
 obtain⟨b1,x1,s1,k1⟩:=h.at (i:=1) (by omega)
 refine⟨λc=>absurd c (by simp; omega),λ_=>⟨λc=>absurd c (by simp; omega),λ_=>⟨b0,_,x0,s0,b0,_,x0,s0,b1,_,x1,s1,?_⟩⟩⟩
 refine(t0k k0 k1).mono λv V1 l1 hv=>⟨_,hv,(y08 k0 (c0j _ _)).mono λv V2 l2 hv=>⟨_,hv,?_⟩⟩
 have ka:=Bk.add_ok (nthB zs 0) ((nthB zs 0).sub (nthB zs 1))
 refine(c0b ka).mono λv V3 l3 hv=>⟨_,hv,(y08 ka (B08 ka)).mono λv V4 l4 hv=>⟨_,hv,(N14 (n:=2) (by omega) (by omega)).mono λv V5 l5 hv=>⟨_,hv,?_⟩⟩⟩
 exact(C07 (Bk.add_ok _ _) (l0a _)).mono λv V6 l6 hv=>⟨_,hv,rfl⟩
theorem U15{V:View}{s:Sl}{zs:List Bk}(h:u01 V s zs)(h2:2<=zs.length)(hn:zs.length<=64)(hP:((nthB zs 0).add ((nthB zs 0).sub (nthB zs 1))).proper) :
 a00 prog j06 #[s.v] V λv _=>v = .tuple #[(estB (ofB (q0h 2)) zs).v.val,.int .i64 0]:=by
 have hl:=h.len
 refine J07 s V _ ?_
 rw[hl]
 refine⟨λc=>absurd c (by simp; omega),λ_=>⟨λc=>absurd c (by simp; omega),λ_=>(n12 (n:=2) (by omega) (by omega)).mono λv V3 l3 hv=>⟨_,hv,?_⟩⟩⟩
 obtain⟨b0,x0,s0,k0⟩:=(h.le l3).at (i:=0) (by omega)
 obtain⟨b1,x1,s1,k1⟩:=(h.le l3).at (i:=1) (by omega)
 refine⟨b0,_,x0,s0,b0,_,x0,s0,b1,_,x1,s1,?_⟩
 refine(a12 k0 k1).mono λv V1 l1 hv=>⟨_,hv,(H0j k0 (c0j _ _)).mono λv V2 l2 hv=>⟨_,hv,?_⟩⟩
 have ka:=Bk.add_ok (nthB zs 0) ((nthB zs 0).sub (nthB zs 1))
 refine(e0l ka hP).mono λv V3 l3 hv=>⟨_,hv,(H0j ka (B08 ka)).mono λv V4 l4 hv=>⟨_,hv,?_⟩⟩
 exact(z0h (Bk.add_ok _ _) (l0a _)).mono λv V6 l6 hv=>⟨_,hv,rfl⟩
theorem f14{V:View}{s:Sl}{zs:List Bk}(h:u01 V s zs)(h2:zs.length<2):a00 prog i06 #[s.v] V λv _=>∃b:BoxV,v = .tuple #[b.val,.int .i64 4]:=by
 refine I07 s V _ ?_
 rw[h.len]
 exact⟨λ_=>⟨_,rfl⟩,λc=>absurd c (by simp; omega)⟩
theorem g14{V:View}{s:Sl}{zs:List Bk}(h:u01 V s zs)(h2:zs.length<2):a00 prog j06 #[s.v] V λv _=>∃b:BoxV,v = .tuple #[b.val,.int .i64 4]:=by
 refine J07 s V _ ?_
 rw[h.len]
 exact⟨λ_=>O0f.mono λv V1 l1 hv=>⟨_,hv,_,rfl⟩,λc=>absurd c (by simp; omega)⟩
theorem s12{V:View}{s:Sl}{d:Bk}{zs:List Bk}(h:u01 V s zs)(hd:d.ok)(hb:lenB (2*(zs.length+1))=true) :
 a00 prog t0b #[s.v,d.v.val] V λv V'=>∃r:Sl,v = .tuple #[r.v,.int .i64 0]/\u01 V' r (T0q zBx zs d):=by
 have hl:=h.len
 have hb2:=B0a hb
 have w1:i64.wrap ((zs.length:Int)+1)=((zs.length+1:Nat):Int):=by rw[i64w (by omega) (by omega)]; omega
 have w2:i64.wrap (2*((zs.length+1:Nat):Int))=((2*(zs.length+1):Nat):Int):=by rw[i64w (by omega) (by omega)]; omega
 refine L0a s d.v V _ (λ_ _ _=>True) (λ_ y V'=>∃k:Nat,y.t8=(k:Int)/\1<=k/\k<=zs.length+1/\OptG 4 boxC V' y.o22 (2*(zs.length+1)) (a0b zBx zs d k)) (λ_ y _=>(zs.length+1-y.t8).toNat) ?_
 rw[hl,w1,w2]
 simp only[Int.toNat_natCast]
 refine⟨⟨λh=>absurd h (by simp; omega),λ_=>(Y03 (by omega)).mono λv V2 l2 hv=>⟨_,hv,λh => ?_,λ_=>trivial⟩⟩,?_⟩
 . rw[Int.toNat_natCast,hb]at h; simp at h
 intro _ V1 l1 _
 refine⟨⟨by omega,by omega,by omega,by omega⟩,m12.mono λv V3 l3 hv=>⟨_,hv,?_⟩⟩
 have s0:=OptG.zeros (sz:=4) boxC V3 (2*(zs.length+1)) (z0:=zb4) rfl
 have s1:=s0.set (i:=0) (by omega) (y:=d.v.val.cells.toList) rfl (z:=d) ⟨rfl,hd⟩
 have s2:=s1.set (i:=zs.length+1) (by omega) (y:=zBx.v.val.cells.toList) rfl (z:=zBx) ⟨rfl,N0m⟩
 refine⟨⟨by omega,by simp; omega⟩,s0.room (i:=0) (by omega),⟨by omega,by omega⟩,s1.room (i:=zs.length+1) (by omega),⟨1,rfl,by omega,by omega,s2.congr λp hp => ?_⟩,?_⟩
 . unfold a0b
   by_cases c0:p=zs.length+1
   . rw[if_pos c0,if_neg (by omega),if_pos c0]
   . rw[if_neg c0]
     by_cases c1:p=0
     . rw[if_pos c1,if_pos c1]
     . rw[if_neg c1,if_neg c1,if_neg c0]
       by_cases c2:p<zs.length+1
       . rw[if_pos c2,if_neg (by omega)]
       . rw[if_neg c2,if_neg (by omega)]
 rintro⟨t,o⟩ V4 l4 ⟨k,rfl,hk1,hk,ho⟩
 dsimp only at ho ⊢
 refine⟨λhlt => ?_,λhge b V6 l6 hb6 => ?_⟩
 . simp only[decide_eq_true_eq]at hlt
   have w3:i64.wrap ((k:Int)-1)=((k-1:Nat):Int):=by rw[i64w (by omega) (by omega)]; omega
   have w4:i64.wrap (((2*(zs.length+1):Nat):Int)-(k:Int))=((2*(zs.length+1)-k:Nat):Int):=by rw[i64w (by omega) (by omega)]; omega
   have w5:i64.wrap ((k:Int)+1)=((k+1:Nat):Int):=by rw[i64w (by omega) (by omega)]; omega
   rw[w3,w4,w5]
   obtain⟨hb6,hx6,hs6,k6⟩:=(h.le (View.le_trans l1 (View.le_trans l3 l4))).at (i:=k-1) (by omega)
   simp only[Int.toNat_natCast]
   refine⟨hb6,_,hx6,hs6,hb6,_,hx6,hs6,(c0b k6).mono λv V5 l5 hv=>⟨_,hv,?_⟩⟩
   have o5:=ho.le (boxC.le l5)
   have t1:=o5.set (i:=k) (by omega) (y:=(nthB zs (k-1)).v.val.cells.toList) rfl (z:=nthB zs (k-1)) ⟨rfl,k6⟩
   have t2:=t1.set (i:=2*(zs.length+1)-k) (by omega) (y:=(nthB zs (k-1)).conj.v.val.cells.toList) rfl (z:=(nthB zs (k-1)).conj) ⟨rfl,B08 k6⟩
   exact⟨⟨by omega,by omega⟩,o5.room (i:=k) (by omega),⟨by omega,by omega⟩,t1.room (by omega),⟨k+1,rfl,by omega,by omega,t2.congr λp hp=>B0i hk1 (by omega) hp⟩,by omega⟩
 . simp only[decide_eq_false_iff_not]at hge
   have hk':k=zs.length+1:=by omega
   subst hk'
   exact⟨_,rfl,C03 (F:=A0i zBx zs d) hb6 ho λp hp=>e0k hp⟩
theorem u12{V:View}{s:Sl}{d:Bk}{zs:List Bk}(h:u01 V s zs)(hd:d.ok)(hb:lenB (2*(zs.length+1))=true)(hP:∀i,i<zs.length->(nthB zs i).proper) :
 a00 prog u0b #[s.v,d.v.val] V λv V'=>∃r:Sl,v = .tuple #[r.v,.int .i64 0]/\u01 V' r (T0q zBx zs d):=by
 have hl:=h.len
 have hb2:=B0a hb
 have w1:i64.wrap ((zs.length:Int)+1)=((zs.length+1:Nat):Int):=by rw[i64w (by omega) (by omega)]; omega
 have w2:i64.wrap (2*((zs.length+1:Nat):Int))=((2*(zs.length+1):Nat):Int):=by rw[i64w (by omega) (by omega)]; omega
 refine O0a s d.v V _ (λ_ y V'=>∃k:Nat,y.t8=(k:Int)/\1<=k/\k<=zs.length+1/\OptG 4 boxC V' y.o18 (2*(zs.length+1)) (a0b zBx zs d k)) (λ_ y _=>(zs.length+1-y.t8).toNat) ?_
 rw[hl,w1,w2]
 simp only[Int.toNat_natCast]
 refine(F0e _).mono λv V1 l1 hv=>⟨_,hv,λh => ?_,λ_ => ?_⟩
 . rw[Int.toNat_natCast,hb]at h; simp at h
 have s0:=OptG.zeros (sz:=4) boxC V1 (2*(zs.length+1)) (z0:=zb4) rfl
 refine⟨⟨by omega,by omega,by omega,by omega⟩,⟨by omega,by simp; omega⟩,s0.room (i:=0) (by omega),O0f.mono λv V3 l3 hv=>⟨_,hv,?_⟩⟩
 have s1:=(s0.le (boxC.le l3)).set (i:=0) (by omega) (y:=d.v.val.cells.toList) rfl (z:=d) ⟨rfl,hd⟩
 have s2:=s1.set (i:=zs.length+1) (by omega) (y:=zBx.v.val.cells.toList) rfl (z:=zBx) ⟨rfl,N0m⟩
 refine⟨⟨by omega,by omega⟩,s1.room (i:=zs.length+1) (by omega),⟨1,rfl,by omega,by omega,s2.congr λp hp => ?_⟩,?_⟩
 . unfold a0b
   by_cases c0:p=zs.length+1
   . rw[if_pos c0,if_neg (by omega),if_pos c0]
   . rw[if_neg c0]
     by_cases c1:p=0
     . rw[if_pos c1,if_pos c1]
     . rw[if_neg c1,if_neg c1,if_neg c0]
       by_cases c2:p<zs.length+1
       . rw[if_pos c2,if_neg (by omega)]
       . rw[if_neg c2,if_neg (by omega)]
 rintro⟨t,o⟩ V4 l4 ⟨k,rfl,hk1,hk,ho⟩
 dsimp only at ho ⊢
 refine⟨λhlt => ?_,λhge b V6 l6 hb6 => ?_⟩
 . simp only[decide_eq_true_eq]at hlt
   have w3:i64.wrap ((k:Int)-1)=((k-1:Nat):Int):=by rw[i64w (by omega) (by omega)]; omega
   have w4:i64.wrap (((2*(zs.length+1):Nat):Int)-(k:Int))=((2*(zs.length+1)-k:Nat):Int):=by rw[i64w (by omega) (by omega)]; omega
   have w5:i64.wrap ((k:Int)+1)=((k+1:Nat):Int):=by rw[i64w (by omega) (by omega)]; omega
   rw[w3,w4,w5]
   obtain⟨hb6,hx6,hs6,k6⟩:=(h.le (View.le_trans l1 (View.le_trans l3 l4))).at (i:=k-1) (by omega)
   simp only[Int.toNat_natCast]
   have t0:=ho.set (i:=k) (by omega) (y:=(nthB zs (k-1)).v.val.cells.toList) rfl (z:=nthB zs (k-1)) ⟨rfl,k6⟩
   refine⟨hb6,_,hx6,hs6,⟨by omega,by omega⟩,ho.room (i:=k) (by omega),hb6,_,hx6,hs6,(e0l k6 (hP _ (by omega))).mono λv V5 l5 hv=>⟨_,hv,?_⟩⟩
   have t1:=t0.le (boxC.le l5)
   have t2:=t1.set (i:=2*(zs.length+1)-k) (by omega) (y:=(nthB zs (k-1)).conj.v.val.cells.toList) rfl (z:=(nthB zs (k-1)).conj) ⟨rfl,B08 k6⟩
   exact⟨⟨by omega,by omega⟩,t1.room (by omega),⟨k+1,rfl,by omega,by omega,t2.congr λp hp=>B0i hk1 (by omega) hp⟩,by omega⟩
 . simp only[decide_eq_false_iff_not]at hge
   have hk':k=zs.length+1:=by omega
   subst hk'
   exact⟨_,rfl,C03 (F:=A0i zBx zs d) hb6 ho λp hp=>e0k hp⟩
def inGB(zs:List Bk)(g:j02):Nat->Bool:=inG zs.length g.from_.toNat g.count.toNat
def O0m(zs:List Bk)(g:j02):List Bk:=if gtE g zs.length=0 then cutB zBx zs (inGB zs g)else []
theorem G0w{F:Nat->Bk}{a:Bk}{k p:Nat}:(if p=k then some (F k)else if p=k then some a else seqG F k p)=seqG F (k+1) p:=by
 rw[<-Y08 F k p]
 by_cases c:p=k
 . rw[if_pos c,if_pos c]
 . rw[if_neg c,if_neg c,if_neg c]
theorem E0t{V:View}{r:Sl}{n k:Nat}{g:j02}(hr:p08 V r (s09 n g.from_.toNat g.count.toNat))(hk:k<n) :
 ((0:Int)<=(k:Int)/\((k:Int))<(r.len:Nat)/\Option.isSome r.a=true)/\V.load (Option.map (λq=>Addr.add q (k*1)) r.a)=some (.bool (inG n g.from_.toNat g.count.toNat k)):=by
 obtain⟨hbx,x,hx,_,hh,_⟩:=l01.get hr (t:=(k:Int)) (by omega) (z:=inG n g.from_.toNat g.count.toNat k) (by simp[s09,hk])
 rw[Int.toNat_natCast]at hh
 exact⟨hbx,m0a (by rw[show x=_ from hx]at hh; exact hh)⟩
theorem O14{V:View}{s:Sl}{zs:List Bk}(g:j02)(h:u01 V s zs) :
 a00 prog A0d #[s.v,g.val] V λv V'=>∃r:Sl,v = .tuple #[r.v,.int .i64 (gtE g zs.length)]/\u01 V' r (O0m zs g):=by
 have hl:=h.len
 let F:Nat->Bk:=λk=>if inGB zs g k=true then nthB zs k else zBx
 refine g0d s g V _ (λ_ x V'=>∃k:Nat,x.t25=(k:Int)/\k<=zs.length/\OptG 4 boxC V' x.o19 zs.length (seqG F k)) (λ_ x _=>(zs.length-x.t25).toNat) ?_
 rw[hl]
 refine(Z0b g _).mono λv V1 l1 hv=>⟨_,hv,λh1 => ?_,λh1 => ?_⟩
 . have h1:gtE g zs.length≠0:=by simpa using h1
   unfold O0m; rw[if_neg h1]
   exact⟨_,rfl,l01.nil⟩
 have h1:gtE g zs.length=0:=by simpa using h1
 obtain⟨c1,c2⟩:=g0l.1 h1
 have hb:=B0a c1
 unfold O0m; rw[if_pos h1,h1]
 refine⟨⟨by omega,by omega,by omega,by omega⟩,(L0m c2 hb.2).mono λv V2 l2 ⟨r,hv,hr⟩=>⟨r,hv,⟨0,rfl,by omega,OptG.start boxC V2 _ F rfl⟩,?_⟩⟩
 have hrl:r.len=zs.length:=by have:=hr.len; simpa [s09]using this
 rintro⟨t,o⟩ V3 l3 ⟨k,rfl,hk,ho⟩
 dsimp only at ho ⊢
 rw[hrl]
 simp only[Int.toNat_natCast]
 refine⟨λhlt => ?_,λhge b V5 l5 hb5 => ?_⟩
 . simp only[decide_eq_true_eq]at hlt
   have hk':k<zs.length:=by omega
   obtain⟨g1,g2⟩:=E0t (p08.le l3 hr) hk'
   rw[hrl]at g1
   rw[i64w (by omega) (by omega)]
   refine⟨g1,_,g2,m12.mono λv V4 l4 hv=>⟨_,hv,⟨by omega,by omega⟩,ho.room hk',λhin => ?_,λhin => ?_⟩⟩
   . obtain⟨b4,x4,s4,k4⟩:=(h.le (View.le_trans l1 (View.le_trans l2 (View.le_trans l3 l4)))).at hk'
     have s1:=(ho.le (boxC.le l4)).set hk' (y:=zBx.v.val.cells.toList) rfl (z:=zBx) ⟨rfl,N0m⟩
     refine⟨b4,_,x4,s4,⟨by omega,by omega⟩,s1.room hk',⟨k+1,by omega,by omega,(s1.set hk' (y:=(nthB zs k).v.val.cells.toList) rfl (z:=nthB zs k) ⟨rfl,k4⟩).congr λp _ => ?_⟩,by omega⟩
     have e:nthB zs k=F k:=by simp only[F]; rw[if_pos (show inGB zs g k=true from hin)]
     rw[e]; exact G0w
   . have s1:=(ho.le (boxC.le l4)).set hk' (y:=zBx.v.val.cells.toList) rfl (z:=zBx) ⟨rfl,N0m⟩
     refine⟨⟨k+1,by omega,by omega,s1.congr λp _ => ?_⟩,by omega⟩
     have e:zBx=F k:=by simp only[F]; rw[if_neg (by rw[show inGB zs g k=false from hin]; simp)]
     rw[e]; exact Y08 F k p
 . simp only[decide_eq_false_iff_not]at hge
   have hk':k=zs.length:=by omega
   subst hk'
   exact⟨_,rfl,C03 (F:=F) hb5 ho λp hp=>F07 hp⟩
theorem P14{V:View}{s:Sl}{zs:List Bk}(g:j02)(h:u01 V s zs) :
 a00 prog B0d #[s.v,g.val] V λv V'=>∃r:Sl,v = .tuple #[r.v,.int .i64 (gtE g zs.length)]/\u01 V' r (O0m zs g):=by
 have hl:=h.len
 let F:Nat->Bk:=λk=>if inGB zs g k=true then nthB zs k else zBx
 refine m0d s g V _ (λ_ x V'=>∃k:Nat,x.t8=(k:Int)/\k<=zs.length/\OptG 4 boxC V' x.o24 zs.length (seqG F k)) (λ_ x _=>(zs.length-x.t8).toNat) ?_
 rw[hl]
 refine(F0e _).mono λv V1 l1 hv=>⟨_,hv,λh1 => ?_,λh1 => ?_⟩
 . rw[Int.toNat_natCast]at h1
   have h1:lenB zs.length=false:=by simpa using h1
   have e:gtE g zs.length=4:=by unfold gtE; rw[Int.toNat_natCast,h1]; rfl
   refine⟨_,by rw[e],?_⟩
   unfold O0m; rw[e,if_neg (by decide)]; exact l01.nil
 rw[Int.toNat_natCast]at h1
 have h1:lenB zs.length=true:=by simpa using h1
 have hb:=B0a h1
 refine(u0k g _).mono λv V2 l2 hv=>⟨_,hv,λh2 => ?_,λh2 => ?_⟩
 . have h2:¬a0e g zs.length:=by simpa using h2
   have e:gtE g zs.length=1:=by unfold gtE; rw[Int.toNat_natCast,if_pos h1,if_neg h2]
   refine⟨_,by rw[e],?_⟩
   unfold O0m; rw[e,if_neg (by decide)]; exact l01.nil
 have h2:a0e g zs.length:=by simpa using h2
 have e:gtE g zs.length=0:=g0l.2 ⟨h1,h2⟩
 unfold O0m
 rw[e,if_pos rfl]
 refine(M0m h2 hb.2).mono λv V3 l3 ⟨r,hv,hr⟩=>⟨r,hv,⟨by omega,by omega,by omega,by omega⟩,⟨0,rfl,by omega,OptG.start boxC V3 _ F rfl⟩,?_⟩
 have hrl:r.len=zs.length:=by have:=hr.len; simpa [s09]using this
 rintro⟨t,o⟩ V4 l4 ⟨k,rfl,hk,ho⟩
 dsimp only at ho ⊢
 simp only[Int.toNat_natCast]
 refine⟨λhlt => ?_,λhge b V6 l6 hb6 => ?_⟩
 . simp only[decide_eq_true_eq]at hlt
   have hk':k<zs.length:=by omega
   rw[i64w (by omega) (by omega)]
   refine O0f.mono λv V5 l5 hv=>⟨_,hv,⟨by omega,by omega⟩,ho.room hk',?_⟩
   obtain⟨g1,g2⟩:=E0t (p08.le (View.le_trans l4 l5) hr) hk'
   have s1:=(ho.le (boxC.le l5)).set hk' (y:=zBx.v.val.cells.toList) rfl (z:=zBx) ⟨rfl,N0m⟩
   refine⟨g1,_,g2,λhin => ?_,λhin => ?_⟩
   . obtain⟨b4,x4,s4,k4⟩:=(h.le (View.le_trans l1 (View.le_trans l2 (View.le_trans l3 (View.le_trans l4 l5))))).at hk'
     refine⟨b4,_,x4,s4,⟨by omega,by omega⟩,s1.room hk',⟨k+1,by omega,by omega,(s1.set hk' (y:=(nthB zs k).v.val.cells.toList) rfl (z:=nthB zs k) ⟨rfl,k4⟩).congr λp _ => ?_⟩,by omega⟩
     have e:nthB zs k=F k:=by simp only[F]; rw[if_pos (show inGB zs g k=true from hin)]
     rw[e]; exact G0w
   . refine⟨⟨k+1,by omega,by omega,s1.congr λp _ => ?_⟩,by omega⟩
     have e:zBx=F k:=by simp only[F]; rw[if_neg (by rw[show inGB zs g k=false from hin]; simp)]
     rw[e]; exact Y08 F k p
 . simp only[decide_eq_false_iff_not]at hge
   have hk':k=zs.length:=by omega
   subst hk'
   exact⟨_,rfl,C03 (F:=F) hb6 ho λp hp=>F07 hp⟩
def twoG(h k:Nat)(F:Nat->Bk)(p:Nat):Option Bk:=if p<k\/(h<=p/\p<h+k)then some (F p)else none
theorem F0t(h:Nat)(F:Nat->Bk)(p:Nat):twoG h 0 F p=none:=by unfold twoG; rw[if_neg (by omega)]
theorem G0t{h k:Nat}(hk:k<h)(F:Nat->Bk)(p:Nat):(if p=k+h then some (F (k+h))else if p=k then some (F k)else twoG h k F p)=twoG h (k+1) F p:=by
 unfold twoG
 by_cases c:p=k+h
 . subst c; rw[if_pos rfl,if_pos (by omega)]
 . rw[if_neg c]
   by_cases c2:p=k
   . subst c2; rw[if_pos rfl,if_pos (by omega)]
   . rw[if_neg c2]
     by_cases c3:p<k\/(h<=p/\p<h+k)
     . rw[if_pos c3,if_pos (by omega)]
     . rw[if_neg c3,if_neg (by omega)]
theorem A08{m:Nat}{zs ws:List Bk}{i:Nat}(h:i<2^m):nthB (A03 (m+1) zs ws) i=(nthB (A03 m (D04 zs 0) (D04 ws 0)) i).add ((nthB (A03 m (D04 zs 1) (D04 ws 0)) i).mul (nthB ws i)):=by
 have:2^(m+1)=2*2^m:=by rw[Nat.pow_succ]; omega
 rw[A03,O0q (by omega),if_pos h]
theorem J0e{m:Nat}{zs ws:List Bk}{i:Nat}(h:i<2^m):nthB (A03 (m+1) zs ws) (i+2^m)=(nthB (A03 m (D04 zs 0) (D04 ws 0)) i).sub ((nthB (A03 m (D04 zs 1) (D04 ws 0)) i).mul (nthB ws i)):=by
 have:2^(m+1)=2*2^m:=by rw[Nat.pow_succ]; omega
 rw[A03,O0q (by omega),if_neg (by omega),Nat.add_sub_cancel]
theorem P0f(zs:List Bk):(List.range zs.length).map (nthB zs)=zs:=by
 apply List.ext_getElem (by simp)
 intro i h1 h2
 simp[nthB,List.getD,h2]
theorem E0h{P:Program}{f:FuncId}{args:Array Value}{ty:TypeId}{V:View}{zs:List Bk}(hz:zs≠[])
 (h:m0b P f args ty V λn cap l rest V'=>n=zs.length/\cap=n/\rest=[]/\y01 4 boxC V' l zs) :
 a00 P f args V λv V'=>∃r:Sl,v=r.v/\u01 V' r zs:=by
 refine h.known.mono λv V' _ ⟨b,n,cap,l,rest,V1,hv,l1,hb,hn,hc,hr,hl⟩ => ?_
 subst hc; subst hr
 have hl0:l≠[]:=by
  intro e; subst e
  have h1:=y01.length hl
  have:zs.length≠0:=by simpa using hz
  simp at h1; omega
 refine⟨⟨lstA b cap,cap,cap⟩,hv,l01.of_block (o:=l) (o':=[]) (b:=b) (λ_=>by simpa using hb hl0) (hl.imp (boxC.le l1)) hn (Nat.le_refl _) (λhc=>by simp[lstA,hc])⟩
theorem i0l:∀(m:Nat) {V:View} {p w:Sl} {zs ws:List Bk},m<=6->zs.length=2^m->ws.length=2^m->u01 V p zs->u01 V w ws ->
 m0b prog l0c #[p.v,w.v] B0o V λn cap l rest V'=>n=(A03 m zs ws).length/\cap=n/\rest=[]/\y01 4 boxC V' l (A03 m zs ws)
 | m,V,p,w,zs,ws,hm,hz,hw,hp,hq=>by
   have hpl:=hp.len
   have hwl:=hq.len
   have hpow:2^m<=64:=Nat.pow_le_pow_right (n:=2) (by omega) hm
   have hpos:0<2^m:=Nat.pow_pos (by omega)
   refine G0b p w V _ (λc x V'=>∃m' k:Nat,m=m'+1/\u01 V' c.t8 (A03 m' (D04 zs 0) (D04 ws 0))/\u01 V' c.t9 (A03 m' (D04 zs 1) (D04 ws 0))/\x.t36=(k:Int)/\k<=2^m' /\
    OptG 4 boxC V' x.o15 (2^m) (twoG (2^m') k λi=>nthB (A03 m zs ws) i))
    (λ_ x _=>(((2^m:Nat):Int)-x.t36).toNat) ?_
   rw[hpl,hz,N02]
   refine⟨⟨by omega,by omega,by omega,by omega⟩,λh1 => ?_,λh1 => ?_⟩
   . have h1:2^m=1:=by have:((2^m:Nat):Int)=1:=(by simpa using h1); omega
     have hm0:m=0:=by
      rcases Nat.eq_zero_or_pos m with h|h
      . exact h
      . have:2^1<=2^m:=Nat.pow_le_pow_right (by omega) h
        omega
     subst hm0
     obtain⟨b0,x0,s0,k0⟩:=hp.at (i:=0) (by omega)
     rw[hz]at b0
     have hset:=(OptG.zeros (sz:=4) boxC V 1 (z0:=zb4) rfl).set (i:=0) (by omega) (y:=(nthB zs 0).v.val.cells.toList) rfl (z:=nthB zs 0) ⟨rfl,k0⟩
     have hall:=hset.all (F:=λ_=>nthB zs 0) λp hp=>by rw[if_pos (by omega)]
     refine⟨b0,_,x0,s0,⟨by omega,by simp⟩,?_,⟨by simp,?_⟩,?_⟩
     . exact(OptG.zeros (sz:=4) boxC V 1 (z0:=zb4) rfl).room (i:=0) (by omega)
     . intro e
       have h5:=y01.length hall
       have h6:(0:Nat)=4:=(congrArg List.length e).symm.trans h5
       omega
     . exact⟨rfl,rfl,rfl,hall⟩
   . have h1:2^m≠1:=by intro e; rw[e]at h1; simp at h1
     obtain ⟨m', rfl⟩ : ∃ m', m = m' + 1 := ⟨m - 1, by rcases Nat.eq_zero_or_pos m with h | h; · subst h; simp at h1
                                                       . omega⟩
     have hp2:2^(m'+1)=2*2^m':=by rw[Nat.pow_succ]; omega
     have ne:∀zs ws,A03 m' zs ws≠[]:=by
      intro zs ws e
      have:=N02 m' zs ws
      rw[e]at this; simp at this
      have:0<2^m':=Nat.pow_pos (by omega)
      omega
     refine(m0r hq (Int.le_refl 0) (by omega) (by omega) (by omega)).mono λv V1 l1 ⟨r1,hv,hr1⟩=>⟨r1,hv,?_⟩
     refine(m0r (hp.le l1) (Int.le_refl 0) (by omega) (by omega) (by omega)).mono λv V2 l2 ⟨r2,hv,hr2⟩=>⟨r2,hv,?_⟩
     refine(E0h (ne _ _) (i0l m' (by omega) (by simp[f06]; omega) (by simp[f06]; omega) hr2 (hr1.le l2))).mono λv V3 l3 ⟨r3,hv,hr3⟩=>⟨r3,hv,?_⟩
     refine(m0r (hp.le (View.le_trans l1 (View.le_trans l2 l3))) (a:=1) (by omega) (by omega) (by omega) (by omega)).mono λv V4 l4 ⟨r4,hv,hr4⟩=>⟨r4,hv,?_⟩
     refine(E0h (ne _ _) (i0l m' (by omega) (by simp[f06]; omega) (by simp[f06]; omega) hr4 (hr1.le (View.le_trans l2 (View.le_trans l3 l4))))).mono λv V5 l5 ⟨r5,hv,hr5⟩=>⟨r5,hv,?_⟩
     have le5:View.le V V5:=View.le_trans l1 (View.le_trans l2 (View.le_trans l3 (View.le_trans l4 l5)))
     have hdiv:i64.wrap (Int.tdiv ((2^(m'+1):Nat):Int) 2)=((2^m':Nat):Int):=by
      have e:Int.tdiv ((2^(m'+1):Nat):Int) 2=((2^m':Nat):Int):=by
       rw[Int.tdiv_eq_ediv_of_nonneg (by omega)]; omega
      rw[e]; exact i64w (by omega) (by omega)
     rw[hdiv]
     have lz:=N02 m' (D04 zs 0) (D04 ws 0)
     have lw:=N02 m' (D04 zs 1) (D04 ws 0)
     refine⟨⟨m',0,rfl,hr3.le (View.le_trans l4 l5),hr5,rfl,by omega,?_⟩,?_⟩
     . rw[Int.toNat_natCast]
       exact(OptG.zeros (sz:=4) boxC V5 _ (z0:=zb4) rfl).congr λp _=>(F0t _ _ p).symm
     rintro⟨t,o⟩ V6 l6 ⟨m2,k,em,h8,h9,rfl,hk,ho⟩
     have em:m'=m2:=by omega
     subst em
     dsimp only at h8 h9 ho ⊢
     simp only[Int.toNat_natCast]
     refine⟨λhlt => ?_,λhge => ?_⟩
     . simp only[decide_eq_true_eq]at hlt
       have hk':k<2^m':=by omega
       have l8:=h8.len
       have l9:=h9.len
       obtain⟨b4,x4,s4,k4⟩:=h9.at (i:=k) (by omega)
       obtain⟨b5,x5,s5,k5⟩:=(hq.le (View.le_trans le5 l6)).at (i:=k) (by omega)
       rw[<-l9]at b4
       rw[<-hwl]at b5
       refine⟨b4,_,x4,s4,b5,_,x5,s5,(C07 k4 k5).mono λv V7 l7 hv=>⟨_,hv,?_⟩⟩
       obtain⟨b6,x6,s6,k6⟩:=(h8.le l7).at (i:=k) (by omega)
       rw[<-l8]at b6
       refine⟨b6,_,x6,s6,b6,_,x6,s6,(y08 k6 (Bk.mul_ok _ _)).mono λv V8 l8' hv=>⟨_,hv,?_⟩⟩
       refine(t0k k6 (Bk.mul_ok _ _)).mono λv V9 l9' hv=>⟨_,hv,⟨by omega,by omega⟩,ho.room (by omega),?_⟩
       have ek:i64.wrap ((k:Int)+((2^m':Nat):Int))=((k+2^m':Nat):Int):=by rw[i64w (by omega) (by omega)]; omega
       rw[ek,Int.toNat_natCast,i64w (by omega) (by omega)]
       have L9:=View.le_trans l7 (View.le_trans l8' l9')
       have ho9:=ho.le (boxC.le L9)
       have s1:=ho9.set (i:=k) (by omega) (y:=(nthB (A03 (m'+1) zs ws) k).v.val.cells.toList) rfl (z:=nthB (A03 (m'+1) zs ws) k) ⟨rfl,by rw[A08 hk']; exact Bk.add_ok _ _⟩
       have s2:=s1.set (i:=k+2^m') (by omega) (y:=(nthB (A03 (m'+1) zs ws) (k+2^m')).v.val.cells.toList) rfl (z:=nthB (A03 (m'+1) zs ws) (k+2^m')) ⟨rfl,by rw[J0e hk']; exact c0j _ _⟩
       have s3:=s2.congr λp _=>G0t hk' (λi=>nthB (A03 (m'+1) zs ws) i) p
       rw[A08 hk']at s1
       rw[A08 hk',J0e hk']at s3
       exact⟨⟨by omega,by omega⟩,s1.room (by omega),⟨m',k+1,rfl,h8.le L9,h9.le L9,by omega,by omega,s3⟩,by omega⟩
     . simp only[decide_eq_false_iff_not]at hge
       have hk':k=2^m':=by omega
       subst hk'
       have h2:=P0f (A03 (m'+1) zs ws)
       rw[N02]at h2
       have ha:=ho.all (F:=λi=>nthB (A03 (m'+1) zs ws) i) λp hp=>by unfold twoG; rw[if_pos (by omega)]
       rw[h2]at ha
       refine⟨⟨by omega,λeo => ?_⟩,trivial,trivial,trivial,ha⟩
       subst eo
       have:=y01.length ha
       rw[N02]at this
       simp at this
       omega
theorem W0i:∀(m:Nat) {V:View} {p w:Sl} {zs ws:List Bk},m<=6->zs.length=2^m->ws.length=2^m->u01 V p zs->u01 V w ws ->
 a00 prog z0b #[p.v,w.v] V λv V'=>∃r:Sl,v=r.v/\u01 V' r (A03 m zs ws)
 | m,V,p,w,zs,ws,hm,hz,hw,hp,hq=>by
   have hpl:=hp.len
   have hwl:=hq.len
   have hpow:2^m<=64:=Nat.pow_le_pow_right (n:=2) (by omega) hm
   have hpos:0<2^m:=Nat.pow_pos (by omega)
   refine N0a p w V _ (λc x V'=>∃m' k:Nat,m=m'+1/\x.t9=(k:Int)/\k<=2^m'/\OptG 4 boxC V' x.o30 (2^m) (twoG (2^m') k λi=>nthB (A03 m zs ws) i))
    (λ_ x _=>(((2^m:Nat):Int)-x.t9).toNat) ?_
   rw[hpl,hz]
   refine⟨λh1 => ?_,λh1 => ?_⟩
   . have h1:2^m=1:=by have:((2^m:Nat):Int)=1:=(by simpa using h1); omega
     have hm0:m=0:=by
      rcases Nat.eq_zero_or_pos m with h|h
      . exact h
      . have:2^1<=2^m:=Nat.pow_le_pow_right (by omega) h
        omega
     subst hm0
     obtain⟨b0,x0,s0,k0⟩:=hp.at (i:=0) (by omega)
     rw[hz]at b0
     refine⟨b0,_,x0,s0,λb V1 l1 _ hb1=>⟨_,rfl,?_⟩⟩
     exact G02 (zs:=A03 0 zs ws) (o:=(nthB zs 0).v.val.cells.toList) hb1 (y01.one (z:=nthB zs 0) rfl ⟨rfl,k0⟩) rfl
   . have h1:2^m≠1:=by intro e; rw[e]at h1; simp at h1
     obtain ⟨m', rfl⟩ : ∃ m', m = m' + 1 := ⟨m - 1, by rcases Nat.eq_zero_or_pos m with h | h; · subst h; simp at h1
                                                       . omega⟩
     have hp2:2^(m'+1)=2*2^m':=by rw[Nat.pow_succ]; omega
     refine(f0l hp (Int.le_refl 0) (by omega) (by omega) (by omega)).mono λv V1 l1 ⟨r1,hv,hr1⟩=>⟨r1,hv,?_⟩
     refine(f0l (hq.le l1) (Int.le_refl 0) (by omega) (by omega) (by omega)).mono λv V2 l2 ⟨r2,hv,hr2⟩=>⟨r2,hv,?_⟩
     refine(W0i m' (by omega) (by simp[f06]; omega) (by simp[f06]; omega) (hr1.le l2) hr2).mono λv V3 l3 ⟨r3,hv,hr3⟩=>⟨r3,hv,?_⟩
     have L3:=View.le_trans l1 (View.le_trans l2 l3)
     refine(f0l (hp.le L3) (a:=1) (by omega) (by omega) (by omega) (by omega)).mono λv V4 l4 ⟨r4,hv,hr4⟩=>⟨r4,hv,?_⟩
     refine(f0l (hq.le (View.le_trans L3 l4)) (Int.le_refl 0) (by omega) (by omega) (by omega)).mono λv V5 l5 ⟨r5,hv,hr5⟩=>⟨r5,hv,?_⟩
     refine(W0i m' (by omega) (by simp[f06]; omega) (by simp[f06]; omega) (hr4.le l5) hr5).mono λv V6 l6 ⟨r6,hv,hr6⟩=>⟨r6,hv,?_⟩
     have L6:View.le V V6:=View.le_trans L3 (View.le_trans l4 (View.le_trans l5 l6))
     have hr6:u01 V6 r6 (A03 m' (D04 zs 1) (D04 ws 0)):=hr6
     have h3:u01 V6 r3 (A03 m' (D04 zs 0) (D04 ws 0)):=hr3.le (View.le_trans l4 (View.le_trans l5 l6))
     have hdiv:i64.wrap (Int.tdiv ((2^(m'+1):Nat):Int) 2)=((2^m':Nat):Int):=by
      have e:Int.tdiv ((2^(m'+1):Nat):Int) 2=((2^m':Nat):Int):=by
       rw[Int.tdiv_eq_ediv_of_nonneg (by omega)]; omega
      rw[e]; exact i64w (by omega) (by omega)
     rw[hdiv,Int.toNat_natCast]
     have lz:=N02 m' (D04 zs 0) (D04 ws 0)
     have lw:=N02 m' (D04 zs 1) (D04 ws 0)
     refine⟨⟨by omega,by omega,by omega,by omega⟩,⟨m',0,rfl,rfl,by omega,(OptG.zeros (sz:=4) boxC V6 _ (z0:=zb4) rfl).congr λp _=>(F0t _ _ p).symm⟩,?_⟩
     rintro⟨t,o⟩ V7 l7 ⟨m2,k,em,rfl,hk,ho⟩
     have em:m'=m2:=by omega
     subst em
     dsimp only at ho ⊢
     simp only[Int.toNat_natCast]
     refine⟨λhlt => ?_,λhge b V12 l12 hb => ?_⟩
     . simp only[decide_eq_true_eq]at hlt
       have hk':k<2^m':=by omega
       have l6':=hr6.len
       have l3':=h3.len
       obtain⟨b4,x4,s4,k4⟩:=(hr6.le l7).at (i:=k) (by omega)
       obtain⟨b5,x5,s5,k5⟩:=(hq.le (View.le_trans L6 l7)).at (i:=k) (by omega)
       rw[<-l6']at b4
       rw[<-hwl]at b5
       refine⟨b4,_,x4,s4,b5,_,x5,s5,(z0h k4 k5).mono λv V8 l8 hv=>⟨_,hv,?_⟩⟩
       obtain⟨b6,x6,s6,k6⟩:=(h3.le (View.le_trans l7 l8)).at (i:=k) (by omega)
       rw[<-l3']at b6
       refine⟨b6,_,x6,s6,(H0j k6 (Bk.mul_ok _ _)).mono λv V9 l9 hv=>⟨_,hv,⟨by omega,by omega⟩,ho.room (by omega),b6,_,q08 l9 x6,s6,?_⟩⟩
       refine(a12 k6 (Bk.mul_ok _ _)).mono λv V10 l10 hv=>⟨_,hv,?_⟩
       have ek:i64.wrap ((k:Int)+((2^m':Nat):Int))=((k+2^m':Nat):Int):=by rw[i64w (by omega) (by omega)]; omega
       rw[ek,Int.toNat_natCast,i64w (by omega) (by omega)]
       have ho10:=ho.le (boxC.le (View.le_trans l8 (View.le_trans l9 l10)))
       have s1:=ho10.set (i:=k) (by omega) (y:=(nthB (A03 (m'+1) zs ws) k).v.val.cells.toList) rfl (z:=nthB (A03 (m'+1) zs ws) k) ⟨rfl,by rw[A08 hk']; exact Bk.add_ok _ _⟩
       have s2:=s1.set (i:=k+2^m') (by omega) (y:=(nthB (A03 (m'+1) zs ws) (k+2^m')).v.val.cells.toList) rfl (z:=nthB (A03 (m'+1) zs ws) (k+2^m')) ⟨rfl,by rw[J0e hk']; exact c0j _ _⟩
       have s3:=s2.congr λp _=>G0t hk' (λi=>nthB (A03 (m'+1) zs ws) i) p
       rw[A08 hk']at s1
       rw[A08 hk',J0e hk']at s3
       exact⟨⟨by omega,by omega⟩,s1.room (by omega),⟨m',k+1,rfl,by omega,by omega,s3⟩,by omega⟩
     . simp only[decide_eq_false_iff_not]at hge
       have hk':k=2^m':=by omega
       subst hk'
       have h2:=P0f (A03 (m'+1) zs ws)
       rw[N02]at h2
       refine⟨_,rfl,?_⟩
       rw[<-h2]
       exact C03 (F:=λi=>nthB (A03 (m'+1) zs ws) i) hb ho λp hp=>by unfold twoG; rw[if_pos (by omega)]
theorem w0k{sz:Nat}{P:View->List Value->Bk->Prop}{V:View}:∀ {zs:List Bk} {o:List Value},y01 sz P V o zs->y01 sz (optG P) V o (zs.map some)
 | [],_,h=>h
 | _::_,_,⟨x,o',e,hx,p,h⟩=>⟨x,o',e,hx,λz hz=>by cases hz; exact p,w0k h⟩
theorem W15{V:View}{o:List Value}{n:Nat}{F:Nat->Bk}(h:y01 4 boxC V o ((List.range n).map F)):OptG 4 boxC V o n (λp=>some (F p)):=by
 have:=w0k h
 rw[List.map_map]at this
 exact this
theorem w12{V:View}{l:List Value}{zs:List Bk}{c:Nat}(h:y01 4 boxC V l zs)(h1:1<=zs.length)(hn:zs.length<=64) :
 L0j prog y0b (λb=>(Value.slice (some ⟨b,0,none⟩) zs.length c::[]:List Value)) B0o l V λl' V'=>y01 4 boxC V' l' (i0m (ofB (q0h zs.length)) zs):=by
 let q:Bk:=ofB (q0h zs.length)
 have hok:∀i,i<zs.length->(nthB zs i).ok:=λi hi=>by
  obtain⟨x,p,_,_⟩:=h.get (Y0v hi)
  exact p.2
 refine K0a 0 zs.length c l V _ (λc x V'=>∃k:Nat,x.t10=(k:Int)/\k<=zs.length/\OptG 4 boxC V' x.o0 zs.length (λp=>some (if p<k then(nthB zs p).mul q else nthB zs p))) (λ_ x _=>(zs.length-x.t10).toNat) ?_
 refine(N14 h1 hn).mono λv V1 l1 hv=>⟨_,hv,⟨0,rfl,by omega,?_⟩,?_⟩
 . have h0:y01 4 boxC V1 l ((List.range zs.length).map (nthB zs)):=by rw[P0f]; exact h.imp (boxC.le l1)
   exact(W15 h0).congr λp _=>by rw[if_neg (by omega)]
 rintro⟨t,o⟩ V2 l2 ⟨k,rfl,hk,ho⟩
 dsimp only at ho ⊢
 simp only[Int.toNat_natCast]
 refine⟨λhlt => ?_,λhge => ?_⟩
 . simp only[decide_eq_true_eq]at hlt
   have hk':k<zs.length:=by omega
   obtain⟨x,⟨rfl,_⟩,_,hx⟩:=ho.get hk' (z:=nthB zs k) (by rw[if_neg (by omega)])
   refine⟨⟨by omega,by omega⟩,_,hx,(C07 (hok k hk') (l0a _)).mono λv V3 l3 hv=>⟨_,hv,⟨by omega,by omega⟩,ho.room hk',?_⟩⟩
   rw[i64w (by omega) (by omega)]
   refine⟨⟨k+1,by omega,by omega,((ho.le (boxC.le l3)).set hk' rfl (z:=(nthB zs k).mul q) ⟨rfl,Bk.mul_ok _ _⟩).congr λp _ => ?_⟩,by omega⟩
   by_cases c:p=k
   . subst c; rw[if_pos rfl,if_pos (by omega)]
   . rw[if_neg c]
     by_cases c2:p<k
     . rw[if_pos c2,if_pos (by omega)]
     . rw[if_neg c2,if_neg (by omega)]
 . simp only[decide_eq_false_iff_not]at hge
   have hk':k=zs.length:=by omega
   subst hk'
   exact⟨⟨trivial,trivial,trivial⟩,ho.all (F:=λp=>(nthB zs p).mul q) λp hp=>by rw[if_pos hp]⟩
theorem W0y{V:View}{s:Sl}{zs:List Bk}(h:u01 V s zs)(h1:1<=zs.length)(hn:zs.length<=64) :
 a00 prog H0a #[s.v] V λv V'=>∃r:Sl,v=r.v/\u01 V' r (i0m (ofB (q0h zs.length)) zs):=by
 have hl:=h.len
 let q:Bk:=ofB (q0h zs.length)
 refine z0a s V _ (λc x V'=>∃k:Nat,x.t5=(k:Int)/\k<=zs.length/\OptG 4 boxC V' x.o11 zs.length (seqG (λi=>(nthB zs i).mul q) k)) (λ_ x _=>(zs.length-x.t5).toNat) ?_
 rw[hl]
 refine(n12 h1 hn).mono λv V1 l1 hv=>⟨_,hv,?_⟩
 simp only[Int.toNat_natCast]
 refine⟨⟨by omega,by omega,by omega,by omega⟩,⟨0,rfl,by omega,OptG.start boxC V1 _ _ rfl⟩,?_⟩
 rintro⟨t,o⟩ V2 l2 ⟨k,rfl,hk,ho⟩
 dsimp only at ho ⊢
 simp only[Int.toNat_natCast]
 refine⟨λhlt => ?_,λhge b V3 l3 hb => ?_⟩
 . simp only[decide_eq_true_eq]at hlt
   have hk':k<zs.length:=by omega
   obtain⟨b4,x4,s4,k4⟩:=(h.le (View.le_trans l1 l2)).at hk'
   refine⟨b4,_,x4,s4,(z0h k4 (l0a _)).mono λv V3 l3 hv=>⟨_,hv,⟨by omega,by omega⟩,?_⟩⟩
   rw[i64w (by omega) (by omega)]
   have ho2:=ho.le (boxC.le l3)
   exact⟨ho2.room hk',⟨k+1,by omega,by omega,ho2.next hk' rfl ⟨rfl,Bk.mul_ok _ _⟩⟩,by omega⟩
 . simp only[decide_eq_false_iff_not]at hge
   have hk':k=zs.length:=by omega
   subst hk'
   exact⟨_,rfl,C03 (F:=λi=>(nthB zs i).mul q) hb ho λp hp=>F07 hp⟩
theorem y12(m:Nat)(zs ws:List Bk):A03 m zs ws≠[]:=λe=>by
 have h:=N02 m zs ws
 rw[e]at h
 have:0<2^m:=Nat.pow_pos (by omega)
 simp at h
 omega
theorem X15{V:View}{p w:Sl}{m:Nat}{zs ws:List Bk}(hm:m<=6)(hz:zs.length=2^m)(hw:ws.length=2^m)(hp:u01 V p zs)(hq:u01 V w ws) :
 a00 prog Z0c #[p.v,w.v] V λv V'=>∃r:Sl,v = .tuple #[r.v,.int .i64 0]/\u01 V' r (A03 m zs ws):=by
 have hl:lenB (2^m)=true:=s0g m (by simp; omega)
 refine u0c p w V _ ((b12 p w).mono λv V1 l1 hv=>⟨_,hv,λh => ?_,λ_ => ?_⟩)
 . rw[hq.len,hw,hl,hp.len,hz]at h; simp at h
 . exact(E0h (y12 m zs ws) (i0l m hm hz hw (hp.le l1) (hq.le l1))).mono λv V2 l2 ⟨r,hv,hr⟩=>⟨r,hv,r,rfl,hr⟩
theorem Y15{V:View}{p w:Sl}{m:Nat}{zs ws:List Bk}(hm:m<=6)(hz:zs.length=2^m)(hw:ws.length=2^m)(hp:u01 V p zs)(hq:u01 V w ws) :
 a00 prog b0d #[p.v,w.v] V λv V'=>∃r:Sl,v = .tuple #[r.v,.int .i64 0]/\u01 V' r (A03 m zs ws):=by
 have hl:lenB (2^m)=true:=s0g m (by simp; omega)
 refine z0c p w V _ ((d12 p w).mono λv V1 l1 hv=>⟨_,hv,λh => ?_,λ_ => ?_⟩)
 . rw[hq.len,hw,hl,hp.len,hz]at h; simp at h
 . exact(W0i m hm hz hw (hp.le l1) (hq.le l1)).mono λv V2 l2 ⟨r,hv,hr⟩=>⟨r,hv,r,rfl,hr⟩
def H0t(m:Nat)(zs ws:List Bk):List Bk:=i0m (ofB (q0h (2^m))) (A03 m zs (S0q ws))
theorem K0e(m:Nat)(zs ws:List Bk):(H0t m zs ws).length=2^m:=by unfold H0t; rw[S0n,N02]
theorem z0v{V:View}{p w:Sl}{m:Nat}{zs ws:List Bk}(hm:m<=6)(hz:zs.length=2^m)(hw:ws.length=2^m)(hp:u01 V p zs)(hq:u01 V w ws) :
 a00 prog u0a #[p.v,w.v] V λv V'=>∃r:Sl,v = .tuple #[r.v,.int .i64 0]/\u01 V' r (H0t m zs ws):=by
 have hl:lenB (2^m)=true:=s0g m (by simp; omega)
 have hb:=B0a hl
 refine U09 p w V _ ((b12 p w).mono λv V1 l1 hv=>⟨_,hv,λh => ?_,λ_ => ?_⟩)
 . rw[hq.len,hw,hl,hp.len,hz]at h; simp at h
 refine(n0r (hq.le l1) (by omega)).mono λv V2 l2 ⟨r2,hv,h2⟩=>⟨r2,hv,?_⟩
 have hcl:(S0q ws).length=2^m:=by rw[d0k,hw]
 refine(i0l m hm hz hcl (hp.le (View.le_trans l1 l2)) h2).mono λn c l rest V3 l3 ⟨hn,hc,hr,hin⟩=>⟨hr,?_⟩
 have hfl:=N02 m zs (S0q ws)
 have hlne:l≠[]:=by
  intro e; subst e
  have:=y01.length hin
  rw[hfl]at this
  simp at this; omega
 refine⟨⟨by omega,hlne⟩,?_⟩
 subst hn
 refine(w12 (c:=c) hin (by omega) (by omega)).mono λl2' V4 l4 h4 => ?_
 intro b V5 l5 hb5
 refine⟨_,rfl,?_⟩
 rw[hc]
 rw[hfl]at h4
 exact G02 hb5 (h4.imp (boxC.le l5)) (by rw[K0e,hfl])
theorem A0v{V:View}{p w:Sl}{m:Nat}{zs ws:List Bk}(hm:m<=6)(hz:zs.length=2^m)(hw:ws.length=2^m)(hp:u01 V p zs)(hq:u01 V w ws)(hP:∀i,i<ws.length->(nthB ws i).proper) :
 a00 prog w0a #[p.v,w.v] V λv V'=>∃r:Sl,v = .tuple #[r.v,.int .i64 0]/\u01 V' r (H0t m zs ws):=by
 have hl:lenB (2^m)=true:=s0g m (by simp; omega)
 have hb:=B0a hl
 refine X09 p w V _ ((d12 p w).mono λv V1 l1 hv=>⟨_,hv,λh => ?_,λ_ => ?_⟩)
 . rw[hq.len,hw,hl,hp.len,hz]at h; simp at h
 refine(o0r (hq.le l1) (by omega) hP).mono λv V2 l2 ⟨r2,hv,h2⟩=>⟨r2,hv,?_⟩
 have hcl:(S0q ws).length=2^m:=by rw[d0k,hw]
 have hfl:=N02 m zs (S0q ws)
 refine(W0i m hm hz hcl (hp.le (View.le_trans l1 l2)) h2).mono λv V3 l3 ⟨r3,hv,h3⟩=>⟨r3,hv,?_⟩
 refine(W0y h3 (by omega) (by omega)).mono λv V4 l4 ⟨r4,hv,h4⟩=>⟨r4,hv,r4,rfl,?_⟩
 rw[hfl]at h4
 exact h4
def P0m(m:Nat)(zs ws:List Bk)(g:j02):List Bk:=if gtE g (2^m:Nat)=0 then A03 m (O0m (H0t m zs ws) g) ws else []
theorem x0k{zs:List Bk}{g:j02}(h:gtE g zs.length=0):(O0m zs g).length=zs.length:=by unfold O0m; rw[if_pos h,g0m]
theorem i14{V:View}{p w:Sl}{m:Nat}{zs ws:List Bk}(g:j02)(hm:m<=6)(hz:zs.length=2^m)(hw:ws.length=2^m)(hp:u01 V p zs)(hq:u01 V w ws) :
 a00 prog b0c #[p.v,w.v,g.val] V λv V'=>∃r:Sl,v = .tuple #[r.v,.int .i64 (gtE g (2^m:Nat))]/\u01 V' r (P0m m zs ws g):=by
 have hL:=K0e m zs ws
 refine I0b p w g V _ ((z0v hm hz hw hp hq).mono λv V1 l1 ⟨r1,hv,h1⟩=>⟨r1,_,hv,λc=>absurd c (by decide),λ_ => ?_⟩)
 refine(O14 g h1).mono λv V2 l2 ⟨r2,hv,h2⟩=>⟨r2,_,hv,λc => ?_,λc => ?_⟩
 . rw[hL]at c ⊢
   have c:gtE g (2^m:Nat)≠0:=by simpa using c
   unfold P0m; rw[if_neg c]
   exact⟨_,rfl,l01.nil⟩
 . rw[hL]at c
   have c:gtE g (2^m:Nat)=0:=by simpa using c
   unfold P0m; rw[if_pos c,c]
   exact(X15 hm (by rw[x0k (by rw[hL]; exact c),hL]) hw h2 (hq.le (View.le_trans l1 l2))).mono λv V3 l3 ⟨r3,hv,h3⟩=>⟨r3,_,hv,r3,rfl,h3⟩
theorem j14{V:View}{p w:Sl}{m:Nat}{zs ws:List Bk}(g:j02)(hm:m<=6)(hz:zs.length=2^m)(hw:ws.length=2^m)(hp:u01 V p zs)(hq:u01 V w ws)(hP:∀i,i<ws.length->(nthB ws i).proper) :
 a00 prog e0c #[p.v,w.v,g.val] V λv V'=>∃r:Sl,v = .tuple #[r.v,.int .i64 (gtE g (2^m:Nat))]/\u01 V' r (P0m m zs ws g):=by
 have hL:=K0e m zs ws
 refine N0b p w g V _ ((A0v hm hz hw hp hq hP).mono λv V1 l1 ⟨r1,hv,h1⟩=>⟨r1,_,hv,λc=>absurd c (by decide),λ_ => ?_⟩)
 refine(P14 g h1).mono λv V2 l2 ⟨r2,hv,h2⟩=>⟨r2,_,hv,λc => ?_,λc => ?_⟩
 . rw[hL]at c ⊢
   have c:gtE g (2^m:Nat)≠0:=by simpa using c
   unfold P0m; rw[if_neg c]
   exact⟨_,rfl,l01.nil⟩
 . rw[hL]at c
   have c:gtE g (2^m:Nat)=0:=by simpa using c
   unfold P0m; rw[if_pos c,c]
   exact(Y15 hm (by rw[x0k (by rw[hL]; exact c),hL]) hw h2 (hq.le (View.le_trans l1 l2))).mono λv V3 l3 ⟨r3,hv,h3⟩=>⟨r3,_,hv,r3,rfl,h3⟩
