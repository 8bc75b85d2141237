/- Part. -/
import Derived.Test.YtjadnpidefnpoaaGreatPartA
namespace Go.Proofs.YtjadnpidefnpoaaGreat
open Go Go.Vc Go.Proofs
open Go.Proofs.Tryz (prog)
open Go.IntKind (i64 u64 u32 u8)
theorem z05{V:View}{s:Sl}{l:List Nat}(h:j04 V s l)(hs:l.length<=2^50) :
 a00 prog W0u #[s.v] V λv V'=>∃r:Sl,v=r.v/\x02 V' r (wval l):=by
 have hlen:=h.len;refine a0s s V _ (λ_ x _=>0<=x.t3/\x.t3<=s.len/\∀d∈l.drop x.t3.toNat,d=0) (λ_ x _=>x.t3.toNat) ⟨⟨Cg _,Ew _,?_⟩,?_⟩
 . intro d hd;simp only[Aa,hlen,Fc]at hd;simp at hd
 rintro⟨t⟩ V1 hle ⟨h0,h1,h2⟩;simp only at h0 h1 h2 ⊢;have hcap:=h.cap;have out:t=0\/l.getD (t.toNat-1) 0≠0->x02 V1 (Sl.mk (if Int.toNat t=Int.toNat 0 then s.a else Option.map (λq=>Addr.add q (Int.toNat 0*1)) s.a) (Int.toNat t-Int.toNat 0) (Int.toNat t-Int.toNat 0)) (wval l):=by
  intro hz;have hw:wval l=wval (l.take t.toNat):=by
   rw[c0k l t.toNat,c0q h2]; omega
  rw[hw];refine y0z ⟨?_,?_,An9 _,h.wb.take _⟩ ?_
  . intro i d hi;have hi':i<t.toNat:=by
     rcases Ad i t.toNat with h|h
     . exact h
     rw[Ab (by simp; omega)]at hi; simp at hi
    rw[Bo hi']at hi;have hne:¬Int.toNat t=Int.toNat 0:=by simp only[Gm]; omega
    have:=H02 hle (h.load i d hi);simp only[hne,At9,Gk];have e:((λx=>x.add i)∘λq=>Addr.add q (Int.toNat 0*1))=λq:Addr=>q.add i:=by
     funext q; simp[Addr.add]
    rw[e]; exact this
  . simp; omega
  intro d hd;rcases hz with rfl|hz
  . simp at hd
  have h3:t.toNat≠0:=by
    intro e; rw[e]at hd; simp at hd
  rw[Fp]at hd;have h4:(l.take t.toNat).length=t.toNat:=by simp; omega
  rw[h4,Bo (by omega)]at hd;simp only[List.getD,hd,Dj]at hz;exact hz
 refine⟨λhp => ?_,λhp=>⟨by simp,λ_=>⟨⟨by omega,by omega,by omega,by omega⟩,_,rfl,out (.inl ?_)⟩⟩⟩
 . simp only[Af]at hp;rw[i64w (by omega) (by omega)];refine⟨⟨by omega,by omega,h.isSome (by omega)⟩,_,(h.le hle).get (by omega) (by omega),λhz => ?_,λhz=>⟨⟨by omega,by omega,by omega,by omega⟩,_,rfl,out (.inr ?_)⟩⟩
   . simp only[beq_iff_eq]at hz;refine⟨⟨by omega,by omega,λd hd => ?_⟩,by omega⟩;have hlt:(t-1).toNat<l.length:=by omega
     rw[Ep hlt]at hd;rcases Bq.1 hd with rfl|hd
     . simp only[List.getD,Ae hlt,Dj]at hz; omega
     exact h2 d (by rw[show(t-1).toNat+1=t.toNat by omega]at hd; exact hd)
   simp only[beq_eq_false_iff_ne,ne_eq]at hz;rw[show t.toNat-1=(t-1).toNat by omega];intro e; rw[e]at hz; exact hz rfl
 simp only[Ac]at hp; omega
theorem f08{V:View}{n:Int}(h0:0<=n)(h1:n<=18446744073709551615) :
 a00 prog L0r #[.int .u64 n] V λv V'=>∃r:Sl,v=r.v/\x02 V' r n.toNat:=by
 refine H0p n V _ λb V1 hle _ hb => ?_;have e:u32.wrap (Int.fdiv n (2^(min (Int.toNat 32) (u64.bits))))=((n.toNat / 4294967296:Nat):Int):=by
  have:(2:Int)^(min (Int.toNat 32) (u64.bits))=4294967296:=by decide
  rw[this,u32w]<;>rw[Bd _ (by omega)]<;>omega
 have e2:u32.wrap n=((n.toNat%4294967296:Nat):Int):=by rw[u32m]; omega
 have hw:j04 V1 (Sl.mk (some (Addr.mk b 0 none)) 2 2) [n.toNat%4294967296,n.toNat / 4294967296] :=
  Ha (by rw[hb,e,e2]; rfl) rfl (by omega) (by intro d hd; simp at hd; omega)
 refine(z05 hw (by simp)).mono λv V' _ ⟨r,hv,hr⟩=>⟨r,hv,_,rfl,?_⟩;have:wval [n.toNat%4294967296,n.toNat / 4294967296]=n.toNat:=by simp[wval]; omega
 rw[this]at hr; exact hr
theorem A0e{V:View}{s:Sl}{n:Nat}(h:x02 V s n) :
 a00 prog W0w #[s.v] V λv _=>v = .bool (decide (n=1)):=by
 have hl:=h.len;refine d0v s V _ ⟨λh1 => ?_,λh1 => ?_⟩
 . have h1:s.len=1:=by have:(s.len:Int)=1:=(by simpa using h1); omega
   refine⟨⟨by omega,by omega,h.isSome (by omega)⟩,_,h.get (by omega) (by omega),?_⟩;have hd:dig n=[n]/\n≠0:=by
    have h0:n≠0:=by rintro rfl; simp[n06,h1]at hl
    rw[T07 h0]at hl;have h2:n / 4294967296=0:=by
     rcases Ap (n / 4294967296)with h|h
     . exact h
     rw[T07 (by omega)]at hl; simp at hl; omega
    rw[T07 h0,h2,n06];exact⟨by congr 1; omega,h0⟩
   rw[hd.1];simp only[Gm,List.getD_cons_zero];congr 1;by_cases e:n=1
   . subst e; rfl
   have:(n:Int)≠1:=by omega
   simp[e,this]
 have h1:s.len≠1:=by have:¬(s.len:Int)=1:=(by simpa using h1); omega
 have:n≠1:=by
  rintro rfl;apply h1;rw[hl,T07 (by omega)];simp[n06]
 simp[this]
theorem L0m{a b:Nat}(h:(dig a).length<(dig b).length):a<b:=by
 rcases Ad a b with h1|h1
 . exact h1
 have:=a0g h1; simp only[wn]at this; omega
theorem Y12{a b:Nat}(h:dig a=dig b):a=b:=by rw[<-i04 a,<-i04 b,h]
theorem M0m{a b:List Nat}{i:Nat}(ha:WB a)(hab:a.length=b.length)(hi:i<a.length)(hd:a.drop (i+1)=b.drop (i+1))(hlt:a.getD i 0<b.getD i 0):wval a<wval b:=by
 rw[c0k a (i+1),c0k b (i+1),hd,s02,s02];have h1:=b0k (ha.take i);have e1:(a.take i).length=i:=by simp; omega
 have e2:(a.take (i+1)).length=i+1:=by simp; omega
 have e3:(b.take (i+1)).length=i+1:=by simp; omega
 rw[e1]at h1; rw[e2,e3];have:=Ag (4294967296^i) (Dp hlt);rw[Ci]at this;omega
theorem O09{V:View}{s t:Sl}{a b:Nat}(hs:x02 V s a)(ht:x02 V t b)(hb:wn a<=2^50) :
 a00 prog P0w #[s.v,t.v] V λv _=>v = .int .i64 (if a<b then -1 else if a=b then 0 else 1):=by
 have h1:=hs.len;have h2:=ht.len;simp only[wn]at hb;refine e0v s t V _ (λ_ x _ => -1<=x.t5/\x.t5<s.len/\(dig a).drop (x.t5+1).toNat=(dig b).drop (x.t5+1).toNat) (λ_ x _=>(x.t5+1).toNat) ⟨λhne=>⟨λhlt => ?_,λhlt => ?_⟩,λhe=>⟨?_,?_⟩⟩
 . have:=L0m (a:=a) (b:=b) (by simpa [h1,h2]using hlt);simp[this]
 . have hne:¬(s.len:Int)=t.len:=by simpa using hne
   have hlt:¬s.len<t.len:=by simpa using hlt
   have:=L0m (a:=b) (b:=a) (by omega);rw[if_neg (by omega),if_neg (by omega)]
 . have he:(s.len:Int)=t.len:=by simpa using he
   rw[i64w (by omega) (by omega)];refine⟨?_,?_,?_⟩
   . show(-1:Int)<=s.len-1; omega
   . show(s.len:Int)-1<s.len; omega
   rw[Gd,Gd]<;>simp<;>omega
 have he:(s.len:Int)=t.len:=by simpa using he
 rintro⟨i⟩ V1 hle ⟨i0,i1,hd⟩;simp only at i0 i1 hd ⊢;refine⟨λhp => ?_,λhp => ?_⟩
 . simp only[Du,Af]at hp;refine⟨⟨by omega,by omega,hs.isSome (by omega)⟩,_,(hs.le hle).get (by omega) (by omega),⟨by omega,by omega,ht.isSome (by omega)⟩,_,(ht.le hle).get (by omega) (by omega),λhlt => ?_,λhlt =>
    ⟨⟨by omega,by omega,hs.isSome (by omega)⟩,_,(hs.le hle).get (by omega) (by omega),⟨by omega,by omega,ht.isSome (by omega)⟩,_,(ht.le hle).get (by omega) (by omega),λhgt => ?_,λhgt => ?_⟩⟩
   . have hlt:(dig a).getD i.toNat 0<(dig b).getD i.toNat 0:=by simpa using hlt
     have:=M0m (L08 a) (by omega) (i:=i.toNat) (by omega) (by rw[show i.toNat+1=(i+1).toNat by omega]; exact hd) hlt;rw[i04,i04]at this;simp[this]
   . have hgt:(dig b).getD i.toNat 0<(dig a).getD i.toNat 0:=by simpa using hgt
     have:=M0m (L08 b) (by omega) (i:=i.toNat) (by omega) (by rw[show i.toNat+1=(i+1).toNat by omega]; exact hd.symm) hgt;rw[i04,i04]at this;rw[if_neg (by omega),if_neg (by omega)]
   have hlt:¬(dig a).getD i.toNat 0<(dig b).getD i.toNat 0:=by simpa using hlt
   have hgt:¬(dig b).getD i.toNat 0<(dig a).getD i.toNat 0:=by simpa using hgt
   rw[i64w (by omega) (by omega)];refine⟨⟨by show(-1:Int)<=i-1; omega,by show i-1<(s.len:Int); omega,?_⟩,by show(i-1+1).toNat<(i+1).toNat; omega⟩;have e:(i-1+1).toNat=i.toNat:=by omega
   show(dig a).drop (i-1+1).toNat=(dig b).drop (i-1+1).toNat;rw[e,Ep (by omega:i.toNat<(dig a).length),Ep (by omega:i.toNat<(dig b).length)];have e2:i.toNat+1=(i+1).toNat:=by omega
   rw[e2,hd];congr 1;simp only[List.getD,Ae (by omega:i.toNat<(dig a).length),Ae (by omega:i.toNat<(dig b).length),Dj]at hlt hgt;omega
 simp only[Du,Ac]at hp;have e:(i+1).toNat=0:=by omega
 rw[e]at hd;have:=Y12 (by simpa using hd);subst this;simp
theorem B0e{V:View}{x y c:Nat}(hx:x<4294967296)(hy:y<4294967296)(hc:c<=1) :
 a00 prog A0p #[.int .u32 (x:Int),.int .u32 (y:Int),.int .u32 (c:Int)] V λv _ =>
  v = .tuple #[.int .u32 (((x+y+c)%4294967296:Nat):Int),.int .u32 (((x+y+c) / 4294967296:Nat):Int)]:=by
 refine F0n _ _ _ V _ ?_;rw[u64w (by omega:(0:Int)<=(x:Int)) (by omega),u64w (by omega:(0:Int)<=(y:Int)) (by omega),u64w (by omega:(0:Int)<=(c:Int)) (by omega),
  u64w (by omega:(0:Int)<=(x:Int)+y) (by omega),u64w (by omega:(0:Int)<=(x:Int)+y+c) (by omega)]
 have:(2:Int)^(min (Int.toNat 32) (u64.bits))=4294967296:=by decide
 rw[this,Bd _ (by omega),u32m,u32w (by omega) (by omega)];congr 2
theorem C0q{V:View}{s t:Sl}{a b:Nat}(hs:x02 V s a)(ht:x02 V t b)(ha:wn a<=2^45)(hb:wn b<=2^45) :
 a00 prog Y0w #[s.v,t.v] V λv V'=>∃r:Sl,v=r.v/\x02 V' r (a+b):=by
 refine f0v s t V _ (λ_ x V'=>∃a' b',x02 V' x.t0 a'/\x02 V' x.t1 b'/\a'+b'=a+b/\wn a'<=2^45/\x.t1.len<=x.t0.len)
  (λc x V'=>∃a' b' l k,x02 V' c.t0 a'/\x02 V' c.t1 b'/\a'+b'=a+b/\c.t1.len<=c.t0.len/\x.o19=wv l/\WB l/\l.length=c.t0.len+1/\x.t6=(k:Nat)/\k<=1/\0<=x.t22/\x.t22<=c.t0.len /\
    wval (l.take x.t22.toNat)+k*4294967296^x.t22.toNat=wval ((dig a').take x.t22.toNat)+wval ((dig b').take x.t22.toNat))
  (λc x _=>(c.t0.len-x.t22).toNat) ⟨⟨λh=>⟨b,a,ht,hs,by omega,hb,?_⟩,λh=>⟨a,b,hs,ht,rfl,ha,?_⟩⟩,?_⟩
 . have:s.len<t.len:=by simpa using h
   exact Fj this
 . have:¬s.len<t.len:=by simpa using h
   exact Nat.le_of_not_lt this
 rintro⟨x,y⟩ V1 hle ⟨a',b',hx,hy,hab,hwa,hlen⟩;simp only at hx hy hlen ⊢;have hxl:=hx.len;have hyl:=hy.len;simp only[wn]at hwa;rw[i64w (n:=(x.len:Int)+1) (by omega) (by omega)];refine⟨⟨by omega,by omega,by omega,by omega⟩,⟨a',b',List.replicate (x.len+1) 0,0,hx,hy,hab,hlen,?_,WB.zeros _,by simp,rfl,by omega,Ew _,by show(0:Int)<=x.len; omega,by simp[wval]⟩,?_⟩
 . show(List.replicate (Int.toNat ((x.len:Int)+1)) [Value.int .u32 0]).flatten=_;rw[show Int.toNat ((x.len:Int)+1)=x.len+1 by omega,F0a]
 rintro⟨k,i,o⟩ V2 hle2 ⟨a2,b2,l,k',hx2,hy2,hab2,_,ho,hwb,hl,hk,hk1,hi0,hi1,hval⟩;simp only at ho hk hi0 hi1 hval hx2 hy2 hl ⊢;obtain rfl:=hx2.inj (hx.le hle2);obtain rfl:=hy2.inj (hy.le hle2);subst hk;refine⟨λhp => ?_,λhp => ?_⟩
 . simp only[Af]at hp;have step:∀(r c:Nat) (V3:View),View.le V2 V3->r+c*4294967296=(dig a2).getD i.toNat 0+(dig b2).getD i.toNat 0+k'->r<4294967296->c<=1 ->
    (∃a' b' l k,x02 V3 x a'/\x02 V3 y b'/\a'+b'=a+b/\y.len<=x.len/\List.set o (0+Int.toNat i*1) (.int .u32 (r:Nat))=wv l/\WB l/\l.length=x.len+1/\(c:Int)=(k:Nat)/\k<=1/\0<=i+1/\i+1<=x.len /\
      wval (l.take (i+1).toNat)+k*4294967296^(i+1).toNat=wval ((dig a').take (i+1).toNat)+wval ((dig b').take (i+1).toNat)):=by
    intro r c V3 hle3 hrc hr hc;refine⟨a2,b2,l.set i.toNat r,c,hx2.le hle3,hy2.le hle3,hab,hlen,?_,hwb.set hr,by simpa using hl,rfl,hc,by omega,by omega,?_⟩
    . rw[ho,show 0+Int.toNat i*1=i.toNat by omega,o0b]
    rw[show(i+1).toNat=i.toNat+1 by omega,q0d (by omega),s02,s02,Ba];have:=Ck (·*4294967296^i.toNat) hrc;simp only[Bb]at this;grind
   refine⟨λhp2 => ?_,λhp2 => ?_⟩
   . simp only[Af]at hp2;refine⟨⟨by omega,by omega,hy.isSome (by omega)⟩,_,hy2.get (by omega) (by omega),⟨by omega,by omega,hx.isSome (by omega)⟩,_,hx2.get (by omega) (by omega),?_⟩;have w1:=hx2.getD_lt i.toNat;have w2:=hy2.getD_lt i.toNat;refine(B0e w1 w2 hk1).mono λv V3 hle3 hv=>⟨_,_,hv,⟨by omega,by omega⟩,by rw[ho,w03]; omega,?_⟩;rw[i64w (n:=i+1) (by omega) (by omega)];obtain⟨a3,b3,l3,k3,g⟩:=step (((dig a2).getD i.toNat 0+(dig b2).getD i.toNat 0+k')%4294967296) (((dig a2).getD i.toNat 0+(dig b2).getD i.toNat 0+k') / 4294967296) V3 hle3 (by omega) (by omega) (by omega);exact⟨⟨a3,b3,l3,k3,g⟩,by show((x.len:Int)-(i+1)).toNat<((x.len:Int)-i).toNat; omega⟩
   simp only[Ac]at hp2;refine⟨⟨by omega,by omega,hx.isSome (by omega)⟩,_,hx2.get (by omega) (by omega),?_⟩;have w1:=hx2.getD_lt i.toNat;have w2:(dig b2).getD i.toNat 0=0:=by simp only[List.getD]; rw[Ab (by omega)]; rfl
   refine(B0e w1 (by omega:0<4294967296) hk1).mono λv V3 hle3 hv=>⟨_,_,hv,⟨by omega,by omega⟩,by rw[ho,w03]; omega,?_⟩;rw[i64w (n:=i+1) (by omega) (by omega)];obtain⟨a3,b3,l3,k3,g⟩:=step (((dig a2).getD i.toNat 0+0+k')%4294967296) (((dig a2).getD i.toNat 0+0+k') / 4294967296) V3 hle3 (by omega) (by omega) (by omega);exact⟨⟨a3,b3,l3,k3,g⟩,by show((x.len:Int)-(i+1)).toNat<((x.len:Int)-i).toNat; omega⟩
 simp only[Ac]at hp;refine⟨⟨by omega,by omega⟩,by rw[ho,w03]; omega,λb1 V5 hle5 hb => ?_⟩;have hi:i.toNat=x.len:=by omega
 have hw:j04 V5 (Sl.mk (some (Addr.mk b1 0 none)) (Int.toNat ((x.len:Int)+1)) (Int.toNat ((x.len:Int)+1))) (l.set x.len k') :=
  Ha (by rw[hb,ho,show 0+Int.toNat (x.len:Int)*1=x.len by omega,o0b]) (by simp; omega) (An9 _) (hwb.set (by omega))
 refine(z05 hw (by simp; omega)).mono λv V6 _ ⟨r,hv,hr⟩=>⟨r,hv,r,rfl,?_⟩;have e:wval (l.set x.len k')=a+b:=by
  have h1:(l.set x.len k')=(l.set x.len k').take (x.len+1):=by rw[Dr9]; simp; omega
  rw[h1,q0d (by omega)];rw[hi,D03 (l:=dig a2) (by omega),D03 (l:=dig b2) (by omega),i04,i04]at hval;omega
 rw[e]at hr; exact hr
theorem C0e{V:View}{x y b:Nat}(hx:x<4294967296)(hy:y<4294967296)(hb:b<=1) :
 a00 prog B0p #[.int .u32 (x:Int),.int .u32 (y:Int),.int .u32 (b:Int)] V λv _ =>
  v = .tuple #[.int .u32 (((x+8589934592-y-b)%4294967296:Nat):Int),.int .u32 ((if x<y+b then 1 else 0:Nat):Int)]:=by
 refine G0n _ _ _ V _ ?_;have hd:u32.wrap ((u32.wrap ((x:Int)-y))-b)=((x+8589934592-y-b)%4294967296:Nat):=by
  rw[u32m,u32m]; omega
 rw[hd];simp only[e0q,f0q];rw[E15];refine Ck (λn:Nat=>Value.tuple #[_,.int .u32 (n:Int)]) (o0x hx hy hb _ _ _ ?_ ?_ ?_ _ ?_)
 . exact of32 hx
 . exact of32 hy
 . exact of32 (Dq _ (by decide))
 show BitVec.ofInt 32 4294967295=_;decide
theorem D0i{V:View}{s t:Sl}{a b:Nat}(hs:x02 V s a)(ht:x02 V t b)(ha:wn a<=2^45)(hba:b<=a) :
 a00 prog Z0w #[s.v,t.v] V λv V'=>∃r:Sl,v=r.v/\x02 V' r (a-b):=by
 have hsl:=hs.len;have htl:=ht.len;have hwn:=a0g hba;simp only[wn]at ha hwn;refine g0v s t V _
  (λ_ x V'=>∃l k:_,x.o11=wv l/\WB l/\l.length=s.len/\x.t6=(k:Nat)/\k<=1/\0<=x.t14/\x.t14<=s.len /\
    wval (l.take x.t14.toNat)+wval ((dig b).take x.t14.toNat)=wval ((dig a).take x.t14.toNat)+k*4294967296^x.t14.toNat)
  (λ_ x _=>(s.len-x.t14).toNat) ⟨⟨by omega,by omega,by omega,by omega⟩,⟨List.replicate s.len 0,0,?_,WB.zeros _,by simp,rfl,by omega,Ew _,by show(0:Int)<=s.len; omega,by simp[wval]⟩,?_⟩
 . show(List.replicate (Int.toNat (s.len:Int)) [Value.int .u32 0]).flatten=_;rw[Aa,F0a]
 rintro⟨k,i,o⟩ V2 hle2 ⟨l,k',ho,hwb,hl,hk,hk1,hi0,hi1,hval⟩;simp only at ho hk hi0 hi1 hval hl ⊢;subst hk;have hx2:=hs.le hle2;have hy2:=ht.le hle2;refine⟨λhp => ?_,λhp => ?_⟩
 . simp only[Af]at hp;have step:∀(r c:Nat) (V3:View),r+(dig b).getD i.toNat 0+k'=(dig a).getD i.toNat 0+c*4294967296->r<4294967296->c<=1 ->
    (∃l k:_,List.set o (0+Int.toNat i*1) (.int .u32 (r:Nat))=wv l/\WB l/\l.length=s.len/\(c:Int)=(k:Nat)/\k<=1/\0<=i+1/\i+1<=s.len /\
      wval (l.take (i+1).toNat)+wval ((dig b).take (i+1).toNat)=wval ((dig a).take (i+1).toNat)+k*4294967296^(i+1).toNat):=by
    intro r c V3 hrc hr hc;refine⟨l.set i.toNat r,c,?_,hwb.set hr,by simpa using hl,rfl,hc,by omega,by omega,?_⟩
    . rw[ho,show 0+Int.toNat i*1=i.toNat by omega,o0b]
    rw[show(i+1).toNat=i.toNat+1 by omega,q0d (by omega),s02,s02,Ba];have:=Ck (·*4294967296^i.toNat) hrc;simp only[Bb]at this;grind
   have w1:=hx2.getD_lt i.toNat;have w2:=hy2.getD_lt i.toNat;refine⟨λhp2 => ?_,λhp2 => ?_⟩
   . simp only[Af]at hp2;refine⟨⟨by omega,by omega,ht.isSome (by omega)⟩,_,hy2.get (by omega) (by omega),⟨by omega,by omega,hs.isSome (by omega)⟩,_,hx2.get (by omega) (by omega),?_⟩;refine(C0e w1 w2 hk1).mono λv V3 hle3 hv=>⟨_,_,hv,⟨by omega,by omega⟩,by rw[ho,w03]; omega,?_⟩;rw[i64w (n:=i+1) (by omega) (by omega)];obtain⟨l3,k3,g⟩:=step (((dig a).getD i.toNat 0+8589934592-(dig b).getD i.toNat 0-k')%4294967296) (if(dig a).getD i.toNat 0<(dig b).getD i.toNat 0+k' then 1 else 0) V3 (by split<;>omega) (by omega) (by split<;>omega)
     exact⟨⟨l3,k3,g⟩,by show((s.len:Int)-(i+1)).toNat<((s.len:Int)-i).toNat; omega⟩
   simp only[Ac]at hp2;refine⟨⟨by omega,by omega,hs.isSome (by omega)⟩,_,hx2.get (by omega) (by omega),?_⟩;have w2:(dig b).getD i.toNat 0=0:=by simp only[List.getD]; rw[Ab (by omega)]; rfl
   refine(C0e w1 (by omega:0<4294967296) hk1).mono λv V3 hle3 hv=>⟨_,_,hv,⟨by omega,by omega⟩,by rw[ho,w03]; omega,?_⟩;rw[i64w (n:=i+1) (by omega) (by omega)];obtain⟨l3,k3,g⟩:=step (((dig a).getD i.toNat 0+8589934592-0-k')%4294967296) (if(dig a).getD i.toNat 0<0+k' then 1 else 0) V3 (by split<;>omega) (by omega) (by split<;>omega)
   exact⟨⟨l3,k3,g⟩,by show((s.len:Int)-(i+1)).toNat<((s.len:Int)-i).toNat; omega⟩
 simp only[Ac]at hp;intro b1 V5 hle5 hb;have hi:i.toNat=s.len:=by omega
 have hw:j04 V5 (Sl.mk (some (Addr.mk b1 0 none)) (Int.toNat (s.len:Int)) (Int.toNat (s.len:Int))) l :=
  Ha (by rw[hb,ho]) (by omega) (An9 _) hwb
 refine(z05 hw (by omega)).mono λv V6 _ ⟨r,hv,hr⟩=>⟨r,hv,r,rfl,?_⟩;rw[hi,D03 (l:=dig a) (by omega),D03 (l:=dig b) (by omega),D03 (by omega),i04,i04]at hval;have h3:=b0k hwb;have e:wval l=a-b:=by
  rcases Ap k' with h0|h0
  . subst h0; omega
  have:k'=1:=by omega
  subst this;rw[hl]at h3;omega
 rw[e]at hr; exact hr
theorem o0o{a b:Nat}(ha:a<4294967296)(hb:b<4294967296):a*b<=18446744065119617025 :=
 Ah (El (Nat.le_of_lt_succ ha) (Nat.le_of_lt_succ hb)) (by decide)
theorem P09{V:View}{s t:Sl}{a b:Nat}(hs:x02 V s a)(ht:x02 V t b)(ha:wn a<=2^44)(hb:wn b<=2^44) :
 a00 prog S0w #[s.v,t.v] V λv V'=>∃r:Sl,v=r.v/\x02 V' r (a*b):=by
 have hsl:=hs.len;have htl:=ht.len;have hs0:s.len=0->a=0:=λh=>K07.1 (by simp only[wn]; omega)
 have ht0:t.len=0->b=0:=λh=>K07.1 (by simp only[wn]; omega)
 simp only[wn]at ha hb;have zero:a*b=0->∀V',∃r:Sl,(Sl.mk none 0 0).v=r.v/\x02 V' r (a*b):=λh V'=>⟨_,rfl,by rw[h]; exact x02.zero V'⟩
 refine i0v s t V _ (λ_ _ _=>True)
  (λ_ x _=>∃i l,x=l05.mk (i:Nat) (wv l)/\i<=s.len/\WB l/\l.length=s.len+t.len/\seg l 0 (i+t.len)=wval ((dig a).take i)*b)
  (λ_ x _=>(s.len-x.t27).toNat)
  (λc x _=>∃i k cr l,c=z04.mk (i:Nat) ((dig a).getD i 0:Nat) (i:Nat)/\i<s.len/\x=m05.mk (cr:Nat) (k:Nat) (wv l)/\WB l/\l.length=s.len+t.len/\k<=t.len/\cr<4294967296 /\
    seg l 0 (i+t.len)+cr*4294967296^(i+k)=wval ((dig a).take i)*b+(dig a).getD i 0*wval ((dig b).take k)*4294967296^i)
  (λ_ x _=>(t.len-x.t34).toNat)
  ⟨⟨λh=>⟨λ_=>zero (by have h:(s.len:Int)=0:=(by simpa using h); rw[hs0 (by omega)]; simp) _,λh=>by cases h⟩,
    λ_=>⟨λh=>zero (by have h:(t.len:Int)=0:=(by simpa using h); rw[ht0 (by omega)]; simp) _,λ_=>trivial⟩⟩,?_⟩
 rintro _ V1 hle1 _;rw[i64w (n:=(s.len:Int)+t.len) (by omega) (by omega)];have hn:Int.toNat ((s.len:Int)+t.len)=s.len+t.len:=by omega
 rw[hn];refine⟨⟨by omega,by omega,by omega,by omega⟩,⟨0,List.replicate (s.len+t.len) 0,?_,by omega,WB.zeros _,by simp,?_⟩,?_⟩
 . rw[F0a]; rfl
 . rw[n0x]; simp[wval]
 rintro _ V2 hle2 ⟨i,l,rfl,hi,hwb,hl,hval⟩;refine⟨λhp => ?_,λhp b1 V4 hle4 hb1 => ?_⟩
 . simp only[Af]at hp;refine⟨⟨by show(0:Int)<=(i:Nat); omega,hp,hs.isSome (by omega)⟩,_,(hs.le (Gx hle1 hle2)).get (by show(0:Int)<=(i:Nat); omega) hp,⟨i,0,0,l,rfl,by omega,rfl,hwb,hl,by omega,by omega,by simp[hval,wval]⟩,?_⟩;rintro _ V3 hle3 ⟨i',k,cr,l',hc,hi',rfl,hwb',hl',hk,hcr,hval'⟩;obtain rfl:i=i':=by simp only[z04.mk.injEq]at hc; omega
   have hbd:=(L08 a).getD i;simp only[Aa];refine⟨λhq => ?_,λhq => ?_⟩
   . simp only[Af]at hq;have hbk:=(L08 b).getD k;have hwl:=hwb'.getD (i+k);have hm:=o0o hbd hbk;have hik:i+k<l'.length:=by omega
     rw[i64w (n:=(i:Int)+k) (by omega) (by omega),i64w (n:=(k:Int)+1) (by omega) (by omega)];have e1:Int.toNat ((i:Int)+k)=i+k:=by omega
     rw[e1];refine⟨⟨by omega,hq,ht.isSome (by omega)⟩,_,(ht.le (Gx hle1 (Gx hle2 hle3))).get (by show(0:Int)<=(k:Nat); omega) hq,⟨by omega,by omega⟩,((l'.getD (i+k) 0:Nat):Int),?_,⟨by omega,by omega⟩,?_,?_⟩
     . rw[show 0+(i+k)*1=i+k by omega]; exact P0g hik
     . rw[w03]; omega
     simp only[Aa];rw[u64w (n:=(((dig a).getD i 0:Nat):Int)) (by omega) (by omega),u64w (n:=(((dig b).getD k 0:Nat):Int)) (by omega) (by omega),u64w (n:=((l'.getD (i+k) 0:Nat):Int)) (by omega) (by omega),<-Cc,
      u64w (n:=(((dig a).getD i 0*(dig b).getD k 0:Nat):Int)) (by omega) (by omega),u64w (n:=(((dig a).getD i 0*(dig b).getD k 0:Nat):Int)+((l'.getD (i+k) 0:Nat):Int)) (by omega) (by omega),u64w (by omega) (by omega)]
     have e2:(2:Int)^(min (Int.toNat 32) (u64.bits))=4294967296:=by decide
     rw[e2,Bd _ (by omega),u32m,show 0+(i+k)*1=i+k by omega];generalize hm':(dig a).getD i 0*(dig b).getD k 0=m at *;generalize hd:cr+m+l'.getD (i+k) 0=z;have e3:(cr:Int)+((m:Int)+((l'.getD (i+k) 0:Nat):Int))=(z:Nat):=by omega
     rw[e3];have e4:((z:Nat):Int)%4294967296=((z%4294967296:Nat):Int):=by omega
     have e5:((z:Nat):Int) / 4294967296=((z / 4294967296:Nat):Int):=by omega
     rw[e4,e5,o0b];refine⟨⟨i,k+1,z / 4294967296,l'.set (i+k) (z%4294967296),rfl,by omega,by simp,hwb'.set (by omega),by simpa using hl',by omega,by omega,?_⟩,by show((t.len:Int)-((k:Int)+1)).toNat<((t.len:Int)-k).toNat; omega⟩;have h1:=m0x (l:=l') (p:=i+k) (d:=z%4294967296) (j:=0) (k:=i+t.len) (by omega) (by omega) hik;rw[Ge]at h1;rw[s02,<-Ej,Ba];have h2:z%4294967296+z / 4294967296*4294967296=z:=by omega
     have h3:=Ck (·*4294967296^(i+k)) h2;rw[<-hd]at h3;simp only[Bb]at h3;have h4:(dig a).getD i 0*((dig b).getD k 0*4294967296^k)*4294967296^i=m*4294967296^(i+k):=by rw[<-hm',Av]; grind
     rw[<-hd]at h1;rw[Eu,Bb,h4,<-hd];have h5:∀q,q*(4294967296^(i+k)*4294967296)=q*4294967296*4294967296^(i+k):=by intro q; grind
     rw[h5];omega
   simp only[Ac]at hq;have hkt:k=t.len:=by omega
   subst hkt;rw[i64w (n:=(i:Int)+t.len) (by omega) (by omega),i64w (n:=(i:Int)+1) (by omega) (by omega)];have e1:Int.toNat ((i:Int)+t.len)=i+t.len:=by omega
   rw[e1,show 0+(i+t.len)*1=i+t.len by omega,u32w (by omega) (by omega),o0b,w03];refine⟨⟨by omega,by omega⟩,by omega,⟨i+1,l'.set (i+t.len) cr,by simp,by omega,hwb'.set hcr,by simpa using hl',?_⟩,by show((s.len:Int)-((i:Int)+1)).toNat<((s.len:Int)-i).toNat; omega⟩;rw[show i+1+t.len=i+t.len+1 by omega,M06 (by omega) (by omega),hval',s02,D03 (l:=dig b) (by omega),i04];grind
 simp only[Ac]at hp;have hi':i=s.len:=by omega
 subst hi';rw[k0e (by omega),D03 (l:=dig a) (by omega),i04]at hval;have hw:j04 V4 (Sl.mk (some (Addr.mk b1 0 none)) (s.len+t.len) (s.len+t.len)) l:=Ha hb1 (by omega) (An9 _) hwb;refine(z05 hw (by omega)).mono λv V6 _ ⟨r,hv,hr⟩=>⟨r,hv,r,rfl,?_⟩;rw[hval]at hr; exact hr
theorem x0k{V:View}{x y d:Nat}(hx:x<d)(hy:y<4294967296)(hd:d<4294967296) :
 a00 prog D0p #[.int .u32 (x:Int),.int .u32 (y:Int),.int .u32 (d:Int)] V λv _ =>
  v = .tuple #[.int .u32 (((x*4294967296+y) / d:Nat):Int),.int .u32 (((x*4294967296+y)%d:Nat):Int)]:=by
 refine H0n _ _ _ V _ ⟨λh=>⟨λh2 => ?_,λ_ => ?_⟩,λh => ?_⟩
 . have:(d:Int)<=x:=by simpa using h2
   omega
 . have e:(2:Int)^(min (Int.toNat 32) (u64.bits))=4294967296:=by decide
   rw[u64w (n:=(d:Int)) (by omega) (by omega),u64w (n:=(x:Int)) (by omega) (by omega),u64w (n:=(y:Int)) (by omega) (by omega),e,u64w (n:=(x:Int)*4294967296) (by omega) (by omega),
    show(x:Int)*4294967296=((x*4294967296:Nat):Int)by omega,or64 hy (by omega),u64w (n:=((x*4294967296+y:Nat):Int)) (by omega) (by omega),<-Int.ofNat_tdiv,<-Int.ofNat_tmod]
   have h1:(x*4294967296+y) / d<4294967296:=by
    rw[Di (by omega)];have:=Ag 4294967296 (Dp hx);rw[Ci]at this;omega
   have h2:(x*4294967296+y)%d<d:=Dq _ (by omega);generalize (x*4294967296+y) / d=q at *;generalize (x*4294967296+y)%d=m at *;rw[u64w (n:=(q:Int)) (by omega) (by omega),u32w (n:=(q:Int)) (by omega) (by omega),u32w (n:=(m:Int)) (by omega) (by omega)];exact⟨by omega,by omega,rfl⟩
 have:(d:Int)=0:=by simpa using h
 omega
theorem F0l{V:View}{s:Sl}{a d:Nat}(hs:x02 V s a)(ha:wn a<=2^45)(hd0:0<d)(hd:d<4294967296) :
 a00 prog U0r #[s.v,.int .u32 (d:Int)] V λv V'=>∃r:Sl,v = .tuple #[r.v,.int .u32 ((a%d:Nat):Int)]/\x02 V' r (a / d):=by
 have hsl:=hs.len;simp only[wn]at ha;refine I0p s d V _
  (λ_ x _=>∃(j k rest:Nat) (l:List Nat),x=y03.mk (rest:Nat) ((j:Int)-1) (wv l)/\j+k=s.len/\WB l/\l.length=s.len/\rest<d/\seg (dig a) j k=seg l j k*d+rest)
  (λ_ x _=>(x.t8+1).toNat) ⟨⟨by omega,by omega,by omega,by omega⟩,⟨s.len,0,0,List.replicate s.len 0,?_,by omega,WB.zeros _,by simp,hd0,by simp[G0a]⟩,?_⟩
 . rw[i64w (by omega) (by omega),Aa,F0a]; rfl
 rintro _ V1 hle ⟨j,k,rest,l,rfl,hjk,hwb,hl,hr,hval⟩;refine⟨λhp => ?_,λhp b1 V3 hle3 hb1 => ?_⟩
 . simp only[Du,Af]at hp;obtain⟨i,rfl⟩:∃i,j=i+1:=⟨j-1,by omega⟩;simp only[show(((i+1:Nat):Int)-1)=(i:Nat)by omega,Aa];have hw:=(L08 a).getD i;refine⟨⟨by omega,by omega,hs.isSome (by omega)⟩,_,(hs.le hle).get (i:=(i:Nat)) (by omega) (by omega),?_⟩;simp only[Aa];refine(x0k hr hw hd).mono λv V2 hle2 hv=>⟨_,_,hv,⟨by omega,by omega⟩,by rw[w03]; omega,?_⟩;rw[i64w (by omega) (by omega),show 0+i*1=i by omega,o0b];have h1:(rest*4294967296+(dig a).getD i 0) / d<4294967296:=by
    rw[Di (by omega)];have:=Ag 4294967296 (Dp hr);rw[Ci]at this;omega
   refine⟨⟨i,k+1,_,_,rfl,by omega,hwb.set h1,by simpa using hl,Dq _ hd0,?_⟩,by show((i:Int)-1+1).toNat<((i:Int)+1).toNat; omega⟩;rw[Gb k 1,p0b,p0b _ i 1 k,hval,t0d (j:=i+1) (by omega),L04,L04,G0a,G0a,Dm,H0a,if_pos ⟨rfl,by omega⟩];have:=Fg (rest*4294967296+(dig a).getD i 0) d;generalize (rest*4294967296+(dig a).getD i 0) / d=q at *;generalize (rest*4294967296+(dig a).getD i 0)%d=m at *;simp only[Eo,Ct,Nat.pow_one,Am,Eu,Bb];have e2:4294967296*(seg l (i+1) k*d)=4294967296*seg l (i+1) k*d:=by rw[Bj]
   have e3:q*d=d*q:=Br _ _;omega
 simp only[Du,Ac]at hp;have hj:j=0:=by omega
 subst hj;have hk:k=s.len:=by omega
 subst hk;have hw:j04 V3 (Sl.mk (some (Addr.mk b1 0 none)) (Int.toNat (s.len:Int)) (Int.toNat (s.len:Int))) l:=Ha hb1 (by omega) (An9 _) hwb;rw[k0e (by omega),k0e (by omega),i04]at hval;have e1:a / d=wval l:=by rw[hval,Br,Nat.mul_add_div hd0,Fb hr]; omega
 have e2:a%d=rest:=by rw[hval,Br,Nat.mul_add_mod,Bx9 hr]
 refine(z05 hw (by omega)).mono λv V6 _ ⟨r,hv,hr⟩=>⟨r,hv,r,?_,?_⟩
 . rw[e2]
 rw[e1]; exact hr
theorem len8:∀n,n<256->Q0o (ByteArray.mk #[0,1,2,2,3,3,3,3,4,4,4,4,4,4,4,4,5,5,5,5,5,5,5,5,5,5,5,5,5,5,5,5,6,6,6,6,6,6,6,6,6,6,6,6,6,6,6,6,6,6,6,6,6,6,6,6,6,6,6,6,6,6,6,6,7,7,7,7,7,7,7,7,7,7,7,7,7,7,7,7,7,7,7,7,7,7,7,7,7,7,7,7,7,7,7,7,7,7,7,7,7,7,7,7,7,7,7,7,7,7,7,7,7,7,7,7,7,7,7,7,7,7,7,7,7,7,7,7,8,8,8,8,8,8,8,8,8,8,8,8,8,8,8,8,8,8,8,8,8,8,8,8,8,8,8,8,8,8,8,8,8,8,8,8,8,8,8,8,8,8,8,8,8,8,8,8,8,8,8,8,8,8,8,8,8,8,8,8,8,8,8,8,8,8,8,8,8,8,8,8,8,8,8,8,8,8,8,8,8,8,8,8,8,8,8,8,8,8,8,8,8,8,8,8,8,8,8,8,8,8,8,8,8,8,8,8,8,8,8,8,8,8,8,8,8,8,8,8,8,8,8,8,8,8,8,8]) n=(bl n:Int):=by decide +kernel
theorem I10:ByteArray.size (ByteArray.mk #[0,1,2,2,3,3,3,3,4,4,4,4,4,4,4,4,5,5,5,5,5,5,5,5,5,5,5,5,5,5,5,5,6,6,6,6,6,6,6,6,6,6,6,6,6,6,6,6,6,6,6,6,6,6,6,6,6,6,6,6,6,6,6,6,7,7,7,7,7,7,7,7,7,7,7,7,7,7,7,7,7,7,7,7,7,7,7,7,7,7,7,7,7,7,7,7,7,7,7,7,7,7,7,7,7,7,7,7,7,7,7,7,7,7,7,7,7,7,7,7,7,7,7,7,7,7,7,7,8,8,8,8,8,8,8,8,8,8,8,8,8,8,8,8,8,8,8,8,8,8,8,8,8,8,8,8,8,8,8,8,8,8,8,8,8,8,8,8,8,8,8,8,8,8,8,8,8,8,8,8,8,8,8,8,8,8,8,8,8,8,8,8,8,8,8,8,8,8,8,8,8,8,8,8,8,8,8,8,8,8,8,8,8,8,8,8,8,8,8,8,8,8,8,8,8,8,8,8,8,8,8,8,8,8,8,8,8,8,8,8,8,8,8,8,8,8,8,8,8,8,8,8,8,8,8,8])=256:=by decide +kernel
theorem D0e{V:View}{x:Nat}(hx:x<4294967296) :
 a00 prog E0p #[.int .u32 (x:Int)] V λv _=>v = .int .i64 (bl x:Nat):=by
 have e16:(2:Int)^(min (Int.toNat 16) (u32.bits))=65536:=by decide
 have e8:(2:Int)^(min (Int.toNat 8) (u32.bits))=256:=by decide
 have fin:∀(n k m:Nat),n<256->k<=24->bl x=bl n+k->(m:Int)=k->Value.int .i64 (i64.wrap ((m:Int)+i64.wrap (Q0o (ByteArray.mk #[0,1,2,2,3,3,3,3,4,4,4,4,4,4,4,4,5,5,5,5,5,5,5,5,5,5,5,5,5,5,5,5,6,6,6,6,6,6,6,6,6,6,6,6,6,6,6,6,6,6,6,6,6,6,6,6,6,6,6,6,6,6,6,6,7,7,7,7,7,7,7,7,7,7,7,7,7,7,7,7,7,7,7,7,7,7,7,7,7,7,7,7,7,7,7,7,7,7,7,7,7,7,7,7,7,7,7,7,7,7,7,7,7,7,7,7,7,7,7,7,7,7,7,7,7,7,7,7,8,8,8,8,8,8,8,8,8,8,8,8,8,8,8,8,8,8,8,8,8,8,8,8,8,8,8,8,8,8,8,8,8,8,8,8,8,8,8,8,8,8,8,8,8,8,8,8,8,8,8,8,8,8,8,8,8,8,8,8,8,8,8,8,8,8,8,8,8,8,8,8,8,8,8,8,8,8,8,8,8,8,8,8,8,8,8,8,8,8,8,8,8,8,8,8,8,8,8,8,8,8,8,8,8,8,8,8,8,8,8,8,8,8,8,8,8,8,8,8,8,8,8,8,8,8,8,8]) n))) = .int .i64 (bl x:Nat):=by
  intro n k m hn hk hb hm;have h1:=S0i n;have h2:bl n<=8:=by
   rcases Ap n with h|h
   . subst h; simp[l0e]
   have:=T0i (by omega:n≠0);have:=(Bu (a:=2) (n:=bl n-1) (m:=8) (by omega)).1 (by omega);omega
  rw[len8 n hn,i64w (n:=(bl n:Int)) (by omega) (by omega),i64w (by omega) (by omega),hm,hb];congr 1; omega
 have w8:∀n:Nat,n<256->u8.wrap (n:Int)=n:=by
  intro n hn;rw[show u8.wrap (n:Int)=(n:Int)%256 from by simp[IntKind.wrap,IntKind.signed,IntKind.bits]];omega
 refine I0n _ V _ ?_;rw[e16,e8,Bd _ (by omega),Bd _ (by omega),Bd _ (by omega),I10];rw[show(x:Int) / 65536 / 256=((x / 16777216:Nat):Int)by omega,show(x:Int) / 65536=((x / 65536:Nat):Int)by omega,show(x:Int) / 256=((x / 256:Nat):Int)by omega];refine⟨λh1=>⟨λh2 => ?_,λh2 => ?_⟩,λh1=>⟨λh2 => ?_,λh2 => ?_⟩⟩<;>simp only[Du,Af,Ac]at h1 h2
 . rw[w8 _ (by omega),Aa];refine⟨⟨by omega,by omega⟩,fin _ 24 24 (by omega) (by omega) (p0x 24 (by omega)) rfl⟩
 . rw[w8 _ (by omega),Aa];refine⟨⟨by omega,by omega⟩,fin _ 16 16 (by omega) (by omega) (p0x 16 (by omega)) rfl⟩
 . rw[w8 _ (by omega),Aa];refine⟨⟨by omega,by omega⟩,fin _ 8 8 (by omega) (by omega) (p0x 8 (by omega)) rfl⟩
 rw[w8 _ (by omega),Aa];refine⟨⟨by omega,by omega⟩,fin _ 0 0 (by omega) (by omega) rfl rfl⟩
theorem P0c{V:View}{x:Nat}(hx:x<4294967296) :
 a00 prog Y0d #[.int .u32 (x:Int)] V λv _=>v = .int .i64 ((32-bl x:Nat):Int):=by
 refine K0d _ V _ ((D0e hx).mono λv V' _ hv=>⟨_,hv,?_⟩);have h2:bl x<=32:=by
  rcases Ap x with h|h
  . subst h; simp[l0e]
  have:=T0i (by omega:x≠0);have:=(Bu (a:=2) (n:=bl x-1) (m:=32) (by omega)).1 (by omega);omega
 rw[i64w (by omega) (by omega)];congr 1; omega
theorem f0f{a:Nat}(h:a≠0):(dig a).getD (wn a-1) 0*4294967296^(wn a-1)<=a/\a<((dig a).getD (wn a-1) 0+1)*4294967296^(wn a-1)/\(dig a).getD (wn a-1) 0≠0:=by
 have h0:wn a≠0:=λe=>h (K07.1 e)
 have h1:=s02 (dig a) (wn a-1);rw[D03 (by simp only[wn]at h0 ⊢; omega),i04]at h1;have h2:=b0k ((L08 a).take (wn a-1));have h3:((dig a).take (wn a-1)).length=wn a-1:=by simp[wn]
 rw[h3]at h2;refine⟨by omega,by rw[Ci]; omega,?_⟩;have h4:(dig a).getLast?=some ((dig a).getD (wn a-1) 0):=by
  rw[Fp];simp only[wn]at h0 ⊢;simp only[List.getD];rw[Ae (by omega)]; rfl
 exact s0t h4
theorem H15{a:Nat}(h:a≠0):bl a=bl ((dig a).getD (wn a-1) 0)+32*(wn a-1):=by
 obtain⟨h1,h2,h3⟩:=f0f h;have e:(4294967296:Nat)^(wn a-1)=2^(32*(wn a-1)):=by rw[Nat.pow_mul]
 rw[e]at h1 h2;exact u0t _ h3 h1 h2
theorem D0q(n:Nat):2^n=2^(n%32)*4294967296^(n / 32):=by
 have e:(4294967296:Nat)=2^32:=by decide
 rw[e,<-Nat.pow_mul,<-Av];congr 1; omega
theorem O14{r:Nat}(h:r<=64):(2:Int)^(min r (IntKind.bits .u64))=((2^r:Nat):Int):=by
 have e:IntKind.bits .u64=64:=rfl;rw[e,Cj h]; simp
theorem G05{V:View}{s:Sl}{a n:Nat}(hs:x02 V s a)(ha:wn a<=2^44)(hn:n<=2^44) :
 a00 prog b0x #[s.v,.int .i64 (n:Int)] V λv V'=>∃r:Sl,v=r.v/\x02 V' r (a*2^n):=by
 have hsl:=hs.len;have hs0:s.len=0->a=0:=λh=>K07.1 (by simp only[wn]; omega)
 simp only[wn]at ha;obtain⟨W,hW⟩:∃W,W=n / 32:=⟨_,rfl⟩;obtain⟨R,hR⟩:∃R,R=2^(n%32):=⟨_,rfl⟩;have hR1:R<=2147483648:=by rw[hR]; exact Ar (by omega) (show n%32<=31 by omega)
 obtain⟨Q,hQ⟩:∃Q,R*Q=4294967296:=⟨2^(32-n%32),by rw[hR,<-Av,show n%32+(32-n%32)=32 by omega]⟩;refine j0v s n V _ (λ_ _ _=>True)
  (λ_ x _=>∃(i:Nat) (l:List Nat),x=n05.mk (i:Nat) (wv l)/\i<=s.len/\WB l/\l.length=s.len+W+1/\seg l 0 (i+W+1)=wval ((dig a).take i)*R*4294967296^W/\l.getD (i+W) 0<R)
  (λ_ x _=>(s.len-x.t32).toNat)
  ⟨⟨λh=>⟨λ_=>⟨s,rfl,by have h:(s.len:Int)=0:=(by simpa using h); have:=hs0 (by omega); subst this; simpa using hs⟩,λh=>by cases h⟩,
    λ_=>⟨λh=>⟨s,rfl,by have h:n=0:=(by simpa using h); subst h; simpa using hs⟩,λ_=>trivial⟩⟩,?_⟩
 rintro _ V1 hle1 _;rw[td32,tm32,<-hW,i64w (n:=(W:Int)) (by omega) (by omega),i64w (n:=(s.len:Int)+W) (by omega) (by omega),i64w (n:=(s.len:Int)+W+1) (by omega) (by omega),
  u64w (n:=((n%32:Nat):Int)) (by omega) (by omega),Aa,O14 (show n%32<=64 by omega),<-hR]
 have hN:Int.toNat ((s.len:Int)+W+1)=s.len+W+1:=by omega
 rw[hN];refine⟨⟨by omega,by omega,by omega,by omega⟩,⟨0,List.replicate (s.len+W+1) 0,?_,by omega,WB.zeros _,by simp,?_,?_⟩,?_⟩
 . rw[F0a]; rfl
 . rw[n0x]; simp[wval]
 . have:(List.replicate (s.len+W+1) 0).getD (0+W) 0=0:=by simp only[List.getD,Dd]; split<;>rfl
   rw[this,hR]; exact Eg _
 rintro _ V2 hle2 ⟨i,l,rfl,hi,hwb,hl,hval,hlt⟩;refine⟨λhp => ?_,λhp b1 V4 hle4 hb1 => ?_⟩
 . simp only[Af]at hp;have hai:=(L08 a).getD i;have hW2:=hwb.getD (i+W);simp only[Aa];rw[i64w (n:=(i:Int)+W) (by omega) (by omega),i64w (n:=(i:Int)+W+1) (by omega) (by omega),i64w (n:=(i:Int)+1) (by omega) (by omega)];have e1:Int.toNat ((i:Int)+W)=i+W:=by omega
   have e2:Int.toNat ((i:Int)+W+1)=i+W+1:=by omega
   rw[e1,e2,show 0+(i+W)*1=i+W by omega,show 0+(i+W+1)*1=i+W+1 by omega];refine⟨⟨by omega,hp,hs.isSome (by omega)⟩,_,(hs.le (Gx hle1 hle2)).get (i:=(i:Nat)) (by omega) hp,by omega,⟨by omega,by omega⟩,((l.getD (i+W) 0:Nat):Int),P0g (by omega),⟨by omega,by omega⟩,by rw[w03]; omega,⟨by omega,by omega⟩,by simp only[Dg,w03]; omega,?_⟩;simp only[Aa];generalize hA:(dig a).getD i 0=A at *;have hm:A*R<=4294967295*2147483648:=El (by omega) hR1;rw[u64w (n:=(A:Int)) (by omega) (by omega),<-Cc,u64w (n:=((A*R:Nat):Int)) (by omega) (by omega)];have e3:(2:Int)^(min (Int.toNat 32) (u64.bits))=4294967296:=by decide
   rw[e3,Bd _ (by omega)];have e4:u32.wrap (((A*R:Nat):Int) / 4294967296)=((A*R / 4294967296:Nat):Int):=by rw[u32w (by omega) (by omega)]; omega
   have e5:u32.wrap ((A*R:Nat):Int)=((A*R%4294967296:Nat):Int):=by rw[u32m]; omega
   have e6:A*R%4294967296=(A%Q)*R:=by
    rw[<-hQ,Br A R,Nat.mul_mod_mul_left,Br]
   have hhi:A*R / 4294967296<R:=by
    rw[Di (by omega),Br];exact Nat.mul_lt_mul_of_pos_left (by omega) (by rw[hR]; exact Eg _)
   have hlo:l.getD (i+W) 0+A*R%4294967296<4294967296:=by
    rw[e6]
    have h0 : 0 < Q := by rcases Ap Q with h | h; · subst h; simp at hQ
                          . exact h
    have h1:A%Q+1<=Q:=Dq _ h0;have h2:=Ag R h1;rw[Ci,Br Q R,hQ]at h2;omega
   rw[e4,e5,G15 hW2 (Dq _ (by omega)),e6];have hor:(l.getD (i+W) 0 ||| A%Q*R)=l.getD (i+W) 0+A%Q*R:=by
    rw[hR]at hlt ⊢; exact i14 hlt
   rw[hor,<-e6,u32w (by omega) (by omega),o0b,o0b];refine⟨⟨i+1,(l.set (i+W) (l.getD (i+W) 0+A*R%4294967296)).set (i+W+1) (A*R / 4294967296),rfl,by omega,(hwb.set (by omega)).set (by omega),by simpa using hl,?_,?_⟩,by show((s.len:Int)-((i:Int)+1)).toNat<((s.len:Int)-i).toNat; omega⟩
   . rw[show i+1+W+1=(i+W+1)+1 by omega,M06 (by omega) (by simp; omega)];have h1:=m0x (l:=l) (p:=i+W) (d:=l.getD (i+W) 0+A*R%4294967296) (j:=0) (k:=i+W+1) (by omega) (by omega) (by omega);rw[Ge,hval]at h1;rw[s02,hA,Ba];have h2:A*R%4294967296+A*R / 4294967296*4294967296=A*R:=by omega
     have h3:=Ck (·*4294967296^(i+W)) h2;simp only[Bb]at h1 h3 ⊢;have h4:A*4294967296^i*R*4294967296^W=A*R*4294967296^(i+W):=by rw[Av]; grind
     have h5:∀q,q*(4294967296^(i+W)*4294967296)=q*4294967296*4294967296^(i+W):=by intro q; grind
     rw[h4,h5];omega
   rw[H0a,if_pos ⟨by omega,by simp; omega⟩]; exact hhi
 simp only[Ac]at hp;have hi':i=s.len:=by omega
 subst hi';rw[k0e (by omega),D03 (l:=dig a) (by omega),i04]at hval;have hw:j04 V4 (Sl.mk (some (Addr.mk b1 0 none)) (s.len+W+1) (s.len+W+1)) l:=Ha hb1 (by omega) (An9 _) hwb;refine(z05 hw (by omega)).mono λv V6 _ ⟨r,hv,hr⟩=>⟨r,hv,r,rfl,?_⟩;rw[hval,Bj,hR,hW,<-D0q]at hr; exact hr
theorem F0s(a i:Nat):a / 4294967296^i%(4294967296*4294967296)=(dig a).getD i 0+4294967296*(dig a).getD (i+1) 0:=by
 rw[Nat.mod_mul,a0o,a0o,Ba,Ee]
theorem J10{a W i R Q:Nat}(hQ:R*Q=4294967296)(_:0<R) :
 ((dig a).getD (W+i) 0+4294967296*(dig a).getD (W+i+1) 0) / R%4294967296=(a / (4294967296^W*R)) / 4294967296^i%4294967296:=by
 have h0:4294967296*4294967296=R*(4294967296*Q):=by rw[<-Bj,Br R,Bj,hQ]
 rw[<-F0s,h0,Nat.mod_mul_right_div_self,Nat.mod_mul_right_mod];rw[Ee,Ee,Av];congr 2;grind
theorem E0q{V:View}{s:Sl}{a n:Nat}(hs:x02 V s a)(ha:wn a<=2^44)(hn:n<=2^44) :
 a00 prog c0x #[s.v,.int .i64 (n:Int)] V λv V'=>∃r:Sl,v=r.v/\x02 V' r (a / 2^n):=by
 have hsl:=hs.len;have hwn:wn a=s.len:=by simp only[wn]; exact hsl.symm
 have haw:=B0l a;rw[hwn]at ha haw;obtain⟨W,hW⟩:∃W,W=n / 32:=⟨_,rfl⟩;obtain⟨R,hR⟩:∃R,R=2^(n%32):=⟨_,rfl⟩;have hR0:0<R:=by rw[hR]; exact Eg _
 obtain⟨Q,hQ⟩:∃Q,R*Q=4294967296:=⟨2^(32-n%32),by rw[hR,<-Av,show n%32+(32-n%32)=32 by omega]⟩;have hpow:2^n=4294967296^W*R:=by rw[hR,hW,Br,<-D0q]
 refine k0v s n V _
  (λ_ x _=>∃(i:Nat) (l:List Nat),x=F03.mk (i:Nat) (wv l)/\i<=s.len-W/\WB l/\l.length=s.len-W/\seg l 0 i=a / 2^n%4294967296^i)
  (λ_ x _=>(s.len-x.t26).toNat) ?_
 rw[td32,tm32,<-hW,i64w (n:=(W:Int)) (by omega) (by omega)];refine⟨λh=>⟨_,rfl,?_⟩,λh => ?_⟩
 . simp only[Du,Af]at h;have:a / 2^n=0:=by
    refine Fb (Cm haw ?_);rw[hpow];have h1:4294967296^s.len<=4294967296^W:=Ar (by omega) (by omega);have:=Cv (4294967296^W) hR0;omega
   rw[this]; exact x02.zero V
 simp only[Du,Ac]at h;rw[i64w (n:=(s.len:Int)-W) (by omega) (by omega),u64w (n:=((n%32:Nat):Int)) (by omega) (by omega),Aa,O14 (show n%32<=64 by omega),<-hR];have hN:Int.toNat ((s.len:Int)-W)=s.len-W:=by omega
 rw[hN];refine⟨⟨by omega,by omega,by omega,by omega⟩,⟨0,List.replicate (s.len-W) 0,?_,by omega,WB.zeros _,by simp,?_⟩,?_⟩
 . rw[F0a]; rfl
 . simp[G0a,Nat.mod_one]
 rintro _ V2 hle2 ⟨i,l,rfl,hi,hwb,hl,hval⟩;refine⟨λhp => ?_,λhp b1 V4 hle4 hb1 => ?_⟩
 . simp only[Af]at hp;simp only[Aa];rw[i64w (n:=(i:Int)+W) (by omega) (by omega),i64w (n:=(i:Int)+W+1) (by omega) (by omega),i64w (n:=(i:Int)+1) (by omega) (by omega)];have w1:=(L08 a).getD (W+i);have w2:=(L08 a).getD (W+i+1);have e1:Int.toNat ((i:Int)+W)=W+i:=by omega
   have e2:Int.toNat ((i:Int)+W+1)=W+i+1:=by omega
   have e3:(2:Int)^(min (Int.toNat 32) (u64.bits))=4294967296:=by decide
   have word:=J10 (a:=a) (W:=W) (i:=i) hQ hR0;rw[<-hpow]at word;have step:∀z:Nat,z=(dig a).getD (W+i) 0+4294967296*(dig a).getD (W+i+1) 0 ->
    (∃(i':Nat) (l':List Nat),F03.mk ((i:Int)+1) ((wv l).set (0+i*1) (.int .u32 (u32.wrap (Int.fdiv (z:Int) (R:Nat)))))=F03.mk (i':Nat) (wv l')/\i'<=s.len-W/\WB l'/\l'.length=s.len-W/\seg l' 0 i'=a / 2^n%4294967296^i'):=by
    intro z hz;have ez:u32.wrap (Int.fdiv (z:Int) (R:Nat))=((a / 2^n / 4294967296^i%4294967296:Nat):Int):=by
     rw[Bd _ (by omega),u32m,<-word,<-hz]; rfl
    rw[ez,show 0+i*1=i by omega,o0b];refine⟨i+1,_,rfl,by omega,hwb.set (Dq _ (by omega)),by simpa using hl,?_⟩;rw[M06 (by omega) (by omega),hval,Ba,Nat.mod_mul,Br (4294967296^i)]
   have hme:((s.len:Int)-((i:Int)+1)).toNat<((s.len:Int)-i).toNat:=by omega
   have g1:=(hs.le hle2).get (i:=(i:Int)+W) (by omega) (by omega);rw[e1]at g1 ⊢;refine⟨⟨by omega,by omega,hs.isSome (by omega)⟩,_,g1,λhq => ?_,λhq => ?_⟩
   . simp only[Af]at hq;have g2:=(hs.le hle2).get (i:=(i:Int)+W+1) (by omega) (by omega);rw[e2]at g2 ⊢;refine⟨⟨by omega,by omega,hs.isSome (by omega)⟩,_,g2,by omega,⟨by omega,by omega⟩,by rw[w03]; omega,?_⟩;rw[e3,u64w (n:=(((dig a).getD (W+i) 0:Nat):Int)) (by omega) (by omega),u64w (n:=(((dig a).getD (W+i+1) 0:Nat):Int)) (by omega) (by omega),u64w (n:=(((dig a).getD (W+i+1) 0:Nat):Int)*4294967296) (by omega) (by omega),
      show(((dig a).getD (W+i+1) 0:Nat):Int)*4294967296=(((dig a).getD (W+i+1) 0*4294967296:Nat):Int)by omega,D15 w1 w2,u64w (by omega) (by omega)]
     exact⟨step _ (by omega),hme⟩
   simp only[Ac]at hq;refine⟨by omega,⟨by omega,by omega⟩,by rw[w03]; omega,?_⟩;rw[u64w (n:=(((dig a).getD (W+i) 0:Nat):Int)) (by omega) (by omega)];have h0:(dig a).getD (W+i+1) 0=0:=by simp only[List.getD]; rw[Ab (by omega)]; rfl
   exact⟨step _ (by omega),hme⟩
 simp only[Ac]at hp;have hi':i=s.len-W:=by omega
 subst hi';have hw:j04 V4 (Sl.mk (some (Addr.mk b1 0 none)) (s.len-W) (s.len-W)) l:=Ha hb1 (by omega) (An9 _) hwb;refine(z05 hw (by omega)).mono λv V6 _ ⟨r,hv,hr⟩=>⟨r,hv,r,rfl,?_⟩;rw[k0e (by omega)]at hval;have hlt:a / 2^n<4294967296^(s.len-W):=by
  rw[hpow,<-Ee];refine Cs9 (Eh _ _) ?_;rw[Di (Bi (by omega)),<-Av,show s.len-W+W=s.len by omega];exact haw
 rw[hval,Bx9 hlt]at hr; exact hr
theorem g0y:(2:Int)^(min (Int.toNat 32) (u64.bits))=4294967296:=by decide
theorem Z12:(2:Int)^(min (Int.toNat 63) (u64.bits))=9223372036854775808:=by decide
theorem y0k{u p b:Nat}(hu:u<4294967296)(hp:p<4294967296)(hb:b<=1):∃low br:Nat,low<4294967296/\br<=1/\low+p+b=u+br*4294967296 /\
 u32.wrap (u64.wrap (u64.wrap ((u:Int)-p)-b))=(low:Nat)/\Int.fdiv (u64.wrap (u64.wrap ((u:Int)-p)-b)) 9223372036854775808=(br:Nat):=by
 refine⟨(u+8589934592-p-b)%4294967296,if u<p+b then 1 else 0,by omega,by split<;>omega,by split<;>omega,?_,?_⟩
 . rw[u32m,u64m,u64m]; omega
 rw[u64m,u64m,Bd _ (by omega)]; split<;>omega
theorem q0o{V:View}{sv:Sl}{vN q j m:Nat}{l:List Nat}(hv:x02 V sv vN)(hq:q<4294967296)(hl:l.length=m)(hwb:WB l)(hj:j+sv.len<m)(hm:m<=2^46) :
 p0n prog Y0u (λb=>(Value.slice (some ⟨b,0,none⟩) m m::[sv.v,Value.int .u64 (q:Nat),Value.int .i64 (j:Nat)]:List Value)) A15 (wv l) V λv l2 _ =>
  ∃neg l',v = .bool neg/\l2=wv l'/\WB l'/\l'.length=m/\(∀i,i<j\/j+sv.len<i->l'.getD i 0=l.getD i 0) /\
   seg l' j (sv.len+1)+q*vN=seg l j (sv.len+1)+(if neg then 4294967296^(sv.len+1)else 0):=by
 have hvl:=hv.len;refine b0s 0 m m (wv l) sv q j V _
  (λ_ x _=>∃(i c b:Nat) (l':List Nat),x=n04.mk (c:Nat) (b:Nat) (i:Nat) (wv l')/\i<=sv.len/\WB l'/\l'.length=m/\c<4294967296/\b<=1 /\
    (∀p,p<j\/j+i<=p->l'.getD p 0=l.getD p 0)/\seg l' j i+q*wval ((dig vN).take i)=seg l j i+(c+b)*4294967296^i)
  (λ_ x _=>(sv.len-x.t18).toNat) ⟨⟨0,0,0,l,rfl,by omega,hwb,hl,by omega,by omega,λ_ _=>rfl,by simp[G0a,wval]⟩,?_⟩
 rintro _ V1 hle ⟨i,c,b,l',rfl,hi,hwb',hl',hc,hb,hout,hval⟩;simp only[g0y,Z12];refine⟨λhp => ?_,λhp => ?_⟩
 . simp only[Af]at hp;rw[i64w (n:=(i:Int)+j) (by omega) (by omega),i64w (n:=(i:Int)+1) (by omega) (by omega),show 0+Int.toNat ((i:Int)+j)*1=j+i by omega];have hvi:=(L08 vN).getD i;have hui:=hwb'.getD (j+i);refine⟨⟨by omega,hp,hv.isSome (by omega)⟩,_,(hv.le hle).get (i:=(i:Nat)) (by omega) hp,⟨by omega,by omega⟩,_,P0g (by omega),⟨by omega,by omega⟩,by rw[w03]; omega,?_⟩;simp only[Aa];generalize hA:(dig vN).getD i 0=A at *;generalize hU:l'.getD (j+i) 0=U at *;have hm':=o0o hq hvi;rw[u64w (n:=(A:Int)) (by omega) (by omega),<-Cc,u64w (n:=((q*A:Nat):Int)) (by omega) (by omega),u64w (n:=((q*A:Nat):Int)+c) (by omega) (by omega)];obtain⟨P,hP⟩:∃P,P=q*A+c:=⟨_,rfl⟩;rw[show((q*A:Nat):Int)+c=(P:Nat)by omega,show u32.wrap (P:Int)=((P%4294967296:Nat):Int)by rw[u32m]; omega,
    u64w (n:=((P%4294967296:Nat):Int)) (by omega) (by omega),u64w (n:=(U:Int)) (by omega) (by omega),Bd (P:Int) (by omega),
    show(P:Int) / 4294967296=((P / 4294967296:Nat):Int)by omega]
   obtain⟨low,br,h1,h2,h3,h4,h5⟩:=y0k hui (Dq P (by omega:0<4294967296)) hb;rw[h4,h5,o0b];refine⟨⟨i+1,P / 4294967296,br,l'.set (j+i) low,rfl,by omega,hwb'.set h1,by simpa using hl',by omega,h2,?_,?_⟩,by show((sv.len:Int)-((i:Int)+1)).toNat<((sv.len:Int)-i).toNat; omega⟩
   . intro p hp;rw[H0a,if_neg (by omega)]; exact hout p (by omega)
   have hu0:l.getD (j+i) 0=U:=by rw[<-hU]; exact(hout (j+i) (by omega)).symm
   rw[M06 rfl (by omega),L04,s02,hA,hu0,Ba];have h6:low+q*A+c+b=U+(P / 4294967296+br)*4294967296:=by
    have:=Fg P 4294967296;omega
   have h7:=Ck (·*4294967296^i) h6;simp only[Bb]at h7 hval ⊢;have h8:q*(wval (List.take i (dig vN))+A*4294967296^i)=q*wval (List.take i (dig vN))+q*A*4294967296^i:=by rw[Eu,Bj]
   have h9:∀z,z*(4294967296^i*4294967296)=z*4294967296*4294967296^i:=by intro z; grind
   rw[h8,h9,h9];omega
 simp only[Ac]at hp;have hi':i=sv.len:=by omega
 subst hi';rw[i64w (n:=(j:Int)+sv.len) (by omega) (by omega),show 0+Int.toNat ((j:Int)+sv.len)*1=j+sv.len by omega];have hui:=hwb'.getD (j+sv.len);refine⟨⟨by omega,by omega⟩,_,P0g (by omega),⟨by omega,by omega⟩,by rw[w03]; omega,?_⟩;generalize hU:l'.getD (j+sv.len) 0=U at *;rw[u64w (n:=(U:Int)) (by omega) (by omega)];obtain⟨low,br,h1,h2,h3,h4,h5⟩:=y0k hui hc hb;rw[h4,h5,o0b];refine⟨_,_,rfl,rfl,hwb'.set h1,by simpa using hl',?_,?_⟩
 . intro p hp;rw[H0a,if_neg (by omega)]; exact hout p (by omega)
 have hu0:l.getD (j+sv.len) 0=U:=by rw[<-hU]; exact(hout (j+sv.len) (by omega)).symm
 rw[D03 (l:=dig vN) (by omega),i04]at hval;rw[M06 rfl (by omega),L04,hu0,Ba];have h7:=Ck (·*4294967296^sv.len) h3;simp only[Bb]at h7 hval;have hif:(if((br:Nat):Int) != 0 then 4294967296^sv.len*4294967296 else 0)=br*4294967296*4294967296^sv.len:=by
  rcases Ap br with h|h
  . subst h; simp
  have:br=1:=by omega
  subst this; simp[Br]
 rw[hif];omega
theorem K10{b sh:Nat}(hb:b≠0)(hsh:sh=32-bl ((dig b).getD (wn b-1) 0)) :
 sh<=31/\wn (b*2^sh)=wn b/\2147483648*4294967296^(wn b-1)<=b*2^sh:=by
 obtain⟨h1,h2,h3⟩:=f0f hb;have hlt:=(L08 b).getD (wn b-1);have hn:wn b≠0:=λe=>hb (K07.1 e)
 obtain⟨k,hk⟩:∃k,wn b=k+1:=⟨wn b-1,by omega⟩;rw[hk,Cf]at h1 h2 h3 hlt hsh;rw[hk,Cf];generalize (dig b).getD k 0=t at *;have a1:=S0i t;have a2:=T0i h3;have a3:=d0k h3;have a4:bl t<=32:=by
  have:=(Bu (a:=2) (n:=bl t-1) (m:=32) (by omega)).1 (by omega);omega
 have e1:2^(bl t-1)*2^sh=2147483648:=by rw[<-Av,show bl t-1+sh=31 by omega]
 have e2:2^bl t*2^sh=4294967296:=by rw[<-Av,show bl t+sh=32 by omega]
 have hP:0<4294967296^k:=Bi (by omega);have lo:2147483648*4294967296^k<=b*2^sh:=by
  rw[<-e1];have h4:=Ag (4294967296^k*2^sh) a2;have h5:=Ag (2^sh) h1;have e3:2^(bl t-1)*2^sh*4294967296^k=2^(bl t-1)*(4294967296^k*2^sh):=by grind
  have e4:t*4294967296^k*2^sh=t*(4294967296^k*2^sh):=by grind
  omega
 have hi:b*2^sh<4294967296^(k+1):=by
  have h4:=Ag (4294967296^k*2^sh) (Dp a1);have h5:=Bh h2 (Eg sh);have e3:4294967296^(k+1)=2^bl t*(4294967296^k*2^sh):=by rw[Ba,<-e2]; grind
  have e4:(t+1)*4294967296^k*2^sh=(t+1)*(4294967296^k*2^sh):=by grind
  simp only[Nat.succ_eq_add_one]at h4;omega
 refine⟨by omega,?_,lo⟩;have h6:=A07 hi;rcases Ad (wn (b*2^sh)) (k+1)with h7|h7
 . exfalso;have h8:=B0l (b*2^sh);have h9:4294967296^wn (b*2^sh)<=4294967296^k:=Ar (by omega) (by omega);omega
 omega
theorem j04.pre{V:View}{s:Sl}{l:List Nat}(h:j04 V s l){k c:Nat}(hk:k<=l.length)(hc:k<=c):j04 V (Sl.mk s.a k c) (l.take k):=by
 refine⟨λi d hi => ?_,by simp; omega,hc,h.wb.take k⟩;have hi':i<k:=by
  rcases Ad i k with h|h
  . exact h
  rw[Ab (by simp; omega)]at hi; simp at hi
 rw[Bo hi']at hi;exact h.load i d hi
theorem K0t{a b:List Nat}(h:wv a=wv b):a=b:=by
 have:=Ck (List.map λv=>match v with|Value.int _ n=>n.toNat|_=>0) h
 simpa [wv,Function.comp_def]using this
theorem j04.has{V:View}{s:Sl}{l:List Nat}(h:j04 V s l):View.has V s.a (wv l):=by
 intro i v hi;simp only[wv,Cd,Bg]at hi;obtain⟨d,hd,rfl⟩:=hi;exact h.load i d hd
structure DivI (X vN n m j:Nat) (u qd:List Nat):Prop where
 jl:j<=m-n
 wu:WB u
 lu:u.length=m
 wq:WB qd
 lq:qd.length=m-n
 eq:X=seg u 0 (j+n)+vN*(4294967296^j*seg qd j (m-n-j))
 lt:seg u j n<vN
theorem DivI.next{X vN n m j R g:Nat}{u u' qd:List Nat}(hnm:n<=m)(h:DivI X vN n m (j+1) u qd)(hR:seg u j (n+1)=R+g*vN)(hlt:R<vN)(hg:g<4294967296)
 (wu':WB u') (lu':u'.length=m) (lo:seg u' 0 j=seg u 0 j) (hi:seg u' j n=R):DivI X vN n m j u' (qd.set j g):=by
 have hj:=h.jl;have hq:=h.lq;refine⟨by omega,wu',lu',h.wq.set hg,by simpa using hq,?_,by rw[hi]; exact hlt⟩;rw[h.eq,show m-n-j=1+(m-n-(j+1))by omega,p0b _ j 1,t0d (j:=j+1) (by omega),L04,G0a,Dm,H0a,if_pos ⟨rfl,by omega⟩,Eo,Ct,Am,Nat.pow_one,
  show j+1+n=j+(n+1)by omega,p0b u 0 j (n+1),p0b u' 0 j n,lo,Am,hi,hR,Ba]
 grind
theorem i0y{l l':List Nat}{j k:Nat}(h:∀i,j<=i->i<j+k->l'.getD i 0=l.getD i 0):seg l' j k=seg l j k :=
 Z0n λi hi=>h _ (by omega) (by omega)
