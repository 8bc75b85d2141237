/- Part. -/
import Derived.Test.YtjadnpidefnpoaaGreatPartA
namespace Go.Proofs.YtjadnpidefnpoaaGreat
open Go Go.Vc Go.Proofs
open Go.Proofs.Tryz (prog)
open Go.IntKind (i64 u64 u32 u8)
theorem u05{V:View}{s:Sl}{l:List Nat}(h:Y01 V s l)(hs:l.length<=2^50) :
 a00 prog F0x #[s.v] V λv V'=>∃r:Sl,v=r.v/\L00 V' r (wval l):=by
 have hlen:=h.len
 refine A0u s V _ (λ_ x _=>0<=x.t3/\x.t3<=s.len/\∀d∈l.drop x.t3.toNat,d=0) (λ_ x _=>x.t3.toNat) ⟨⟨Int.natCast_nonneg _,Int.le_refl _,?_⟩,?_⟩
 . intro d hd
   simp only[Int.toNat_natCast,hlen,List.drop_length]at hd
   simp at hd
 rintro⟨t⟩ V1 hle ⟨h0,h1,h2⟩
 simp only at h0 h1 h2 ⊢
 have hcap:=h.cap
 have out:t=0\/l.getD (t.toNat-1) 0≠0->L00 V1 (Sl.mk (if Int.toNat t=Int.toNat 0 then s.a else Option.map (λq=>Addr.add q (Int.toNat 0*1)) s.a) (Int.toNat t-Int.toNat 0) (Int.toNat t-Int.toNat 0)) (wval l):=by
  intro hz
  have hw:wval l=wval (l.take t.toNat):=by
   rw[p0i l t.toNat,a0k h2]; omega
  rw[hw]
  refine L0t ⟨?_,?_,Nat.le_refl _,h.wb.take _⟩ ?_
  . intro i d hi
    have hi':i<t.toNat:=by
     rcases Nat.lt_or_ge i t.toNat with h|h
     . exact h
     . rw[List.getElem?_eq_none (by simp; omega)]at hi; simp at hi
    rw[List.getElem?_take_of_lt hi']at hi
    have hne:¬Int.toNat t=Int.toNat 0:=by simp only[Int.toNat_zero]; omega
    have:=H01 hle (h.load i d hi)
    simp only[hne,if_false,Option.map_map]
    have e:((λx=>x.add i)∘λq=>Addr.add q (Int.toNat 0*1))=λq:Addr=>q.add i:=by
     funext q; simp[Addr.add]
    rw[e]; exact this
  . simp; omega
  . intro d hd
    rcases hz with rfl|hz
    . simp at hd
    . have h3:t.toNat≠0:=by
        intro e; rw[e]at hd; simp at hd
      rw[List.getLast?_eq_getElem?]at hd
      have h4:(l.take t.toNat).length=t.toNat:=by simp; omega
      rw[h4,List.getElem?_take_of_lt (by omega)]at hd
      simp only[List.getD,hd,Option.getD_some]at hz
      exact hz
 refine⟨λhp => ?_,λhp=>⟨by simp,λ_=>⟨⟨by omega,by omega,by omega,by omega⟩,_,rfl,out (.inl ?_)⟩⟩⟩
 . simp only[decide_eq_true_eq]at hp
   rw[i64w (by omega) (by omega)]
   refine⟨⟨by omega,by omega,h.isSome (by omega)⟩,_,(h.le hle).get (by omega) (by omega),λhz => ?_,λhz=>⟨⟨by omega,by omega,by omega,by omega⟩,_,rfl,out (.inr ?_)⟩⟩
   . simp only[beq_iff_eq]at hz
     refine⟨⟨by omega,by omega,λd hd => ?_⟩,by omega⟩
     have hlt:(t-1).toNat<l.length:=by omega
     rw[List.drop_eq_getElem_cons hlt]at hd
     rcases List.mem_cons.1 hd with rfl|hd
     . simp only[List.getD,List.getElem?_eq_getElem hlt,Option.getD_some]at hz; omega
     . exact h2 d (by rw[show(t-1).toNat+1=t.toNat by omega]at hd; exact hd)
   . simp only[beq_eq_false_iff_ne,ne_eq]at hz
     rw[show t.toNat-1=(t-1).toNat by omega]
     intro e; rw[e]at hz; exact hz rfl
 . simp only[decide_eq_false_iff_not]at hp; omega
theorem e08{V:View}{n:Int}(h0:0<=n)(h1:n<=18446744073709551615) :
 a00 prog i0u #[.int .u64 n] V λv V'=>∃r:Sl,v=r.v/\L00 V' r n.toNat:=by
 refine n0s n V _ λb V1 hle _ hb => ?_
 have e:u32.wrap (Int.fdiv n (2^(min (Int.toNat 32) (u64.bits))))=((n.toNat / 4294967296:Nat):Int):=by
  have:(2:Int)^(min (Int.toNat 32) (u64.bits))=4294967296:=by decide
  rw[this,u32w]<;>rw[Int.fdiv_eq_ediv_of_nonneg _ (by omega)]<;>omega
 have e2:u32.wrap n=((n.toNat%4294967296:Nat):Int):=by rw[u32m]; omega
 have hw:Y01 V1 (Sl.mk (some (Addr.mk b 0 none)) 2 2) [n.toNat%4294967296,n.toNat / 4294967296] :=
  Y01.of_block (by rw[hb,e,e2]; rfl) rfl (by omega) (by intro d hd; simp at hd; omega)
 refine(u05 hw (by simp)).mono λv V' _ ⟨r,hv,hr⟩=>⟨r,hv,_,rfl,?_⟩
 have:wval [n.toNat%4294967296,n.toNat / 4294967296]=n.toNat:=by simp[wval]; omega
 rw[this]at hr; exact hr
theorem E0f{V:View}{s:Sl}{n:Nat}(h:L00 V s n) :
 a00 prog W0z #[s.v] V λv _=>v = .bool (decide (n=1)):=by
 have hl:=h.len
 refine N0x s V _ ⟨λh1 => ?_,λh1 => ?_⟩
 . have h1:s.len=1:=by have:(s.len:Int)=1:=(by simpa using h1); omega
   refine⟨⟨by omega,by omega,h.isSome (by omega)⟩,_,h.get (by omega) (by omega),?_⟩
   have hd:dig n=[n]/\n≠0:=by
    have h0:n≠0:=by rintro rfl; simp[t05,h1]at hl
    rw[O06 h0]at hl
    have h2:n / 4294967296=0:=by
     rcases Nat.eq_zero_or_pos (n / 4294967296)with h|h
     . exact h
     . rw[O06 (by omega)]at hl; simp at hl; omega
    rw[O06 h0,h2,t05]
    exact⟨by congr 1; omega,h0⟩
   rw[hd.1]
   simp only[Int.toNat_zero,List.getD_cons_zero]
   congr 1
   by_cases e:n=1
   . subst e; rfl
   . have:(n:Int)≠1:=by omega
     simp[e,this]
 . have h1:s.len≠1:=by have:¬(s.len:Int)=1:=(by simpa using h1); omega
   have:n≠1:=by
    rintro rfl
    apply h1
    rw[hl,O06 (by omega)]
    simp[t05]
   simp[this]
theorem o0g{a b:Nat}(h:(dig a).length<(dig b).length):a<b:=by
 rcases Nat.lt_or_ge a b with h1|h1
 . exact h1
 . have:=T0b h1; simp only[wn]at this; omega
theorem k11{a b:Nat}(h:dig a=dig b):a=b:=by rw[<-F01 a,<-F01 b,h]
theorem p0g{a b:List Nat}{i:Nat}(ha:WB a)(hab:a.length=b.length)(hi:i<a.length)(hd:a.drop (i+1)=b.drop (i+1))(hlt:a.getD i 0<b.getD i 0):wval a<wval b:=by
 rw[p0i a (i+1),p0i b (i+1),hd,k01,k01]
 have h1:=n0h (ha.take i)
 have e1:(a.take i).length=i:=by simp; omega
 have e2:(a.take (i+1)).length=i+1:=by simp; omega
 have e3:(b.take (i+1)).length=i+1:=by simp; omega
 rw[e1]at h1; rw[e2,e3]
 have:=Nat.mul_le_mul_right (4294967296^i) (Nat.succ_le_of_lt hlt)
 rw[Nat.succ_mul]at this
 omega
theorem L0c{V:View}{s t:Sl}{a b:Nat}(hs:L00 V s a)(ht:L00 V t b)(hb:wn a<=2^50) :
 a00 prog L0z #[s.v,t.v] V λv _=>v = .int .i64 (if a<b then -1 else if a=b then 0 else 1):=by
 have h1:=hs.len
 have h2:=ht.len
 simp only[wn]at hb
 refine O0x s t V _ (λ_ x _ => -1<=x.t5/\x.t5<s.len/\(dig a).drop (x.t5+1).toNat=(dig b).drop (x.t5+1).toNat) (λ_ x _=>(x.t5+1).toNat) ⟨λhne=>⟨λhlt => ?_,λhlt => ?_⟩,λhe=>⟨?_,?_⟩⟩
 . have:=o0g (a:=a) (b:=b) (by simpa [h1,h2]using hlt)
   simp[this]
 . have hne:¬(s.len:Int)=t.len:=by simpa using hne
   have hlt:¬s.len<t.len:=by simpa using hlt
   have:=o0g (a:=b) (b:=a) (by omega)
   rw[if_neg (by omega),if_neg (by omega)]
 . have he:(s.len:Int)=t.len:=by simpa using he
   rw[i64w (by omega) (by omega)]
   refine⟨?_,?_,?_⟩
   . show(-1:Int)<=s.len-1; omega
   . show(s.len:Int)-1<s.len; omega
   . rw[List.drop_eq_nil_of_le,List.drop_eq_nil_of_le]<;>simp<;>omega
 . have he:(s.len:Int)=t.len:=by simpa using he
   rintro⟨i⟩ V1 hle ⟨i0,i1,hd⟩
   simp only at i0 i1 hd ⊢
   refine⟨λhp => ?_,λhp => ?_⟩
   . simp only[ge_iff_le,decide_eq_true_eq]at hp
     refine⟨⟨by omega,by omega,hs.isSome (by omega)⟩,_,(hs.le hle).get (by omega) (by omega),⟨by omega,by omega,ht.isSome (by omega)⟩,_,(ht.le hle).get (by omega) (by omega),λhlt => ?_,λhlt =>
      ⟨⟨by omega,by omega,hs.isSome (by omega)⟩,_,(hs.le hle).get (by omega) (by omega),⟨by omega,by omega,ht.isSome (by omega)⟩,_,(ht.le hle).get (by omega) (by omega),λhgt => ?_,λhgt => ?_⟩⟩
     . have hlt:(dig a).getD i.toNat 0<(dig b).getD i.toNat 0:=by simpa using hlt
       have:=p0g (b05 a) (by omega) (i:=i.toNat) (by omega) (by rw[show i.toNat+1=(i+1).toNat by omega]; exact hd) hlt
       rw[F01,F01]at this
       simp[this]
     . have hgt:(dig b).getD i.toNat 0<(dig a).getD i.toNat 0:=by simpa using hgt
       have:=p0g (b05 b) (by omega) (i:=i.toNat) (by omega) (by rw[show i.toNat+1=(i+1).toNat by omega]; exact hd.symm) hgt
       rw[F01,F01]at this
       rw[if_neg (by omega),if_neg (by omega)]
     . have hlt:¬(dig a).getD i.toNat 0<(dig b).getD i.toNat 0:=by simpa using hlt
       have hgt:¬(dig b).getD i.toNat 0<(dig a).getD i.toNat 0:=by simpa using hgt
       rw[i64w (by omega) (by omega)]
       refine⟨⟨by show(-1:Int)<=i-1; omega,by show i-1<(s.len:Int); omega,?_⟩,by show(i-1+1).toNat<(i+1).toNat; omega⟩
       have e:(i-1+1).toNat=i.toNat:=by omega
       show(dig a).drop (i-1+1).toNat=(dig b).drop (i-1+1).toNat
       rw[e,List.drop_eq_getElem_cons (by omega:i.toNat<(dig a).length),List.drop_eq_getElem_cons (by omega:i.toNat<(dig b).length)]
       have e2:i.toNat+1=(i+1).toNat:=by omega
       rw[e2,hd]
       congr 1
       simp only[List.getD,List.getElem?_eq_getElem (by omega:i.toNat<(dig a).length),List.getElem?_eq_getElem (by omega:i.toNat<(dig b).length),Option.getD_some]at hlt hgt
       omega
   . simp only[ge_iff_le,decide_eq_false_iff_not]at hp
     have e:(i+1).toNat=0:=by omega
     rw[e]at hd
     have:=k11 (by simpa using hd)
     subst this
     simp
theorem F0f{V:View}{x y c:Nat}(hx:x<4294967296)(hy:y<4294967296)(hc:c<=1) :
 a00 prog Y0r #[.int .u32 (x:Int),.int .u32 (y:Int),.int .u32 (c:Int)] V λv _ =>
  v = .tuple #[.int .u32 (((x+y+c)%4294967296:Nat):Int),.int .u32 (((x+y+c) / 4294967296:Nat):Int)]:=by
 refine Y0p _ _ _ V _ ?_
 rw[u64w (by omega:(0:Int)<=(x:Int)) (by omega),u64w (by omega:(0:Int)<=(y:Int)) (by omega),u64w (by omega:(0:Int)<=(c:Int)) (by omega),
  u64w (by omega:(0:Int)<=(x:Int)+y) (by omega),u64w (by omega:(0:Int)<=(x:Int)+y+c) (by omega)]
 have:(2:Int)^(min (Int.toNat 32) (u64.bits))=4294967296:=by decide
 rw[this,Int.fdiv_eq_ediv_of_nonneg _ (by omega),u32m,u32w (by omega) (by omega)]
 congr 2
theorem c0t{V:View}{s t:Sl}{a b:Nat}(hs:L00 V s a)(ht:L00 V t b)(ha:wn a<=2^45)(hb:wn b<=2^45) :
 a00 prog Y0z #[s.v,t.v] V λv V'=>∃r:Sl,v=r.v/\L00 V' r (a+b):=by
 refine P0x s t V _ (λ_ x V'=>∃a' b',L00 V' x.t0 a'/\L00 V' x.t1 b'/\a'+b'=a+b/\wn a'<=2^45/\x.t1.len<=x.t0.len)
  (λc x V'=>∃a' b' l k,L00 V' c.t0 a'/\L00 V' c.t1 b'/\a'+b'=a+b/\c.t1.len<=c.t0.len/\x.o19=wv l/\WB l/\l.length=c.t0.len+1/\x.t6=(k:Nat)/\k<=1/\0<=x.t22/\x.t22<=c.t0.len /\
    wval (l.take x.t22.toNat)+k*4294967296^x.t22.toNat=wval ((dig a').take x.t22.toNat)+wval ((dig b').take x.t22.toNat))
  (λc x _=>(c.t0.len-x.t22).toNat) ⟨⟨λh=>⟨b,a,ht,hs,by omega,hb,?_⟩,λh=>⟨a,b,hs,ht,rfl,ha,?_⟩⟩,?_⟩
 . have:s.len<t.len:=by simpa using h
   exact Nat.le_of_lt this
 . have:¬s.len<t.len:=by simpa using h
   exact Nat.le_of_not_lt this
 rintro⟨x,y⟩ V1 hle ⟨a',b',hx,hy,hab,hwa,hlen⟩
 simp only at hx hy hlen ⊢
 have hxl:=hx.len
 have hyl:=hy.len
 simp only[wn]at hwa
 rw[i64w (n:=(x.len:Int)+1) (by omega) (by omega)]
 refine⟨⟨by omega,by omega,by omega,by omega⟩,⟨a',b',List.replicate (x.len+1) 0,0,hx,hy,hab,hlen,?_,WB.zeros _,by simp,rfl,by omega,Int.le_refl _,by show(0:Int)<=x.len; omega,by simp[wval]⟩,?_⟩
 . show(List.replicate (Int.toNat ((x.len:Int)+1)) [Value.int .u32 0]).flatten=_
   rw[show Int.toNat ((x.len:Int)+1)=x.len+1 by omega,L05]
 rintro⟨k,i,o⟩ V2 hle2 ⟨a2,b2,l,k',hx2,hy2,hab2,_,ho,hwb,hl,hk,hk1,hi0,hi1,hval⟩
 simp only at ho hk hi0 hi1 hval hx2 hy2 hl ⊢
 obtain rfl:=hx2.inj (hx.le hle2)
 obtain rfl:=hy2.inj (hy.le hle2)
 subst hk
 refine⟨λhp => ?_,λhp => ?_⟩
 . simp only[decide_eq_true_eq]at hp
   have step:∀(r c:Nat) (V3:View),View.le V2 V3->r+c*4294967296=(dig a2).getD i.toNat 0+(dig b2).getD i.toNat 0+k'->r<4294967296->c<=1 ->
    (∃a' b' l k,L00 V3 x a'/\L00 V3 y b'/\a'+b'=a+b/\y.len<=x.len/\List.set o (0+Int.toNat i*1) (.int .u32 (r:Nat))=wv l/\WB l/\l.length=x.len+1/\(c:Int)=(k:Nat)/\k<=1/\0<=i+1/\i+1<=x.len /\
      wval (l.take (i+1).toNat)+k*4294967296^(i+1).toNat=wval ((dig a').take (i+1).toNat)+wval ((dig b').take (i+1).toNat)):=by
    intro r c V3 hle3 hrc hr hc
    refine⟨a2,b2,l.set i.toNat r,c,hx2.le hle3,hy2.le hle3,hab,hlen,?_,hwb.set hr,by simpa using hl,rfl,hc,by omega,by omega,?_⟩
    . rw[ho,show 0+Int.toNat i*1=i.toNat by omega,S05]
    . rw[show(i+1).toNat=i.toNat+1 by omega,E07 (by omega),k01,k01,Nat.pow_succ]
      have:=congrArg (·*4294967296^i.toNat) hrc
      simp only[Nat.add_mul]at this
      grind
   refine⟨λhp2 => ?_,λhp2 => ?_⟩
   . simp only[decide_eq_true_eq]at hp2
     refine⟨⟨by omega,by omega,hy.isSome (by omega)⟩,_,hy2.get (by omega) (by omega),⟨by omega,by omega,hx.isSome (by omega)⟩,_,hx2.get (by omega) (by omega),?_⟩
     have w1:=hx2.getD_lt i.toNat
     have w2:=hy2.getD_lt i.toNat
     refine(F0f w1 w2 hk1).mono λv V3 hle3 hv=>⟨_,_,hv,⟨by omega,by omega⟩,by rw[ho,m01]; omega,?_⟩
     rw[i64w (n:=i+1) (by omega) (by omega)]
     obtain⟨a3,b3,l3,k3,g⟩:=step (((dig a2).getD i.toNat 0+(dig b2).getD i.toNat 0+k')%4294967296) (((dig a2).getD i.toNat 0+(dig b2).getD i.toNat 0+k') / 4294967296) V3 hle3 (by omega) (by omega) (by omega)
     exact⟨⟨a3,b3,l3,k3,g⟩,by show((x.len:Int)-(i+1)).toNat<((x.len:Int)-i).toNat; omega⟩
   . simp only[decide_eq_false_iff_not]at hp2
     refine⟨⟨by omega,by omega,hx.isSome (by omega)⟩,_,hx2.get (by omega) (by omega),?_⟩
     have w1:=hx2.getD_lt i.toNat
     have w2:(dig b2).getD i.toNat 0=0:=by simp only[List.getD]; rw[List.getElem?_eq_none (by omega)]; rfl
     refine(F0f w1 (by omega:0<4294967296) hk1).mono λv V3 hle3 hv=>⟨_,_,hv,⟨by omega,by omega⟩,by rw[ho,m01]; omega,?_⟩
     rw[i64w (n:=i+1) (by omega) (by omega)]
     obtain⟨a3,b3,l3,k3,g⟩:=step (((dig a2).getD i.toNat 0+0+k')%4294967296) (((dig a2).getD i.toNat 0+0+k') / 4294967296) V3 hle3 (by omega) (by omega) (by omega)
     exact⟨⟨a3,b3,l3,k3,g⟩,by show((x.len:Int)-(i+1)).toNat<((x.len:Int)-i).toNat; omega⟩
 . simp only[decide_eq_false_iff_not]at hp
   refine⟨⟨by omega,by omega⟩,by rw[ho,m01]; omega,λb1 V5 hle5 hb => ?_⟩
   have hi:i.toNat=x.len:=by omega
   have hw:Y01 V5 (Sl.mk (some (Addr.mk b1 0 none)) (Int.toNat ((x.len:Int)+1)) (Int.toNat ((x.len:Int)+1))) (l.set x.len k') :=
    Y01.of_block (by rw[hb,ho,show 0+Int.toNat (x.len:Int)*1=x.len by omega,S05]) (by simp; omega) (Nat.le_refl _) (hwb.set (by omega))
   refine(u05 hw (by simp; omega)).mono λv V6 _ ⟨r,hv,hr⟩=>⟨r,hv,r,rfl,?_⟩
   have e:wval (l.set x.len k')=a+b:=by
    have h1:(l.set x.len k')=(l.set x.len k').take (x.len+1):=by rw[List.take_of_length_le]; simp; omega
    rw[h1,E07 (by omega)]
    rw[hi,z01 (l:=dig a2) (by omega),z01 (l:=dig b2) (by omega),F01,F01]at hval
    omega
   rw[e]at hr; exact hr
theorem G0f{V:View}{x y b:Nat}(hx:x<4294967296)(hy:y<4294967296)(hb:b<=1) :
 a00 prog Z0r #[.int .u32 (x:Int),.int .u32 (y:Int),.int .u32 (b:Int)] V λv _ =>
  v = .tuple #[.int .u32 (((x+8589934592-y-b)%4294967296:Nat):Int),.int .u32 ((if x<y+b then 1 else 0:Nat):Int)]:=by
 refine Z0p _ _ _ V _ ?_
 have hd:u32.wrap ((u32.wrap ((x:Int)-y))-b)=((x+8589934592-y-b)%4294967296:Nat):=by
  rw[u32m,u32m]; omega
 rw[hd]
 simp only[K0s,L0s]
 rw[u17]
 refine congrArg (λn:Nat=>Value.tuple #[_,.int .u32 (n:Int)]) (z10 hx hy hb _ _ _ ?_ ?_ ?_ _ ?_)
 . exact of32 hx
 . exact of32 hy
 . exact of32 (Nat.mod_lt _ (by decide))
 . show BitVec.ofInt 32 4294967295=_
   decide
theorem g0k{V:View}{s t:Sl}{a b:Nat}(hs:L00 V s a)(ht:L00 V t b)(ha:wn a<=2^45)(hba:b<=a) :
 a00 prog Z0z #[s.v,t.v] V λv V'=>∃r:Sl,v=r.v/\L00 V' r (a-b):=by
 have hsl:=hs.len
 have htl:=ht.len
 have hwn:=T0b hba
 simp only[wn]at ha hwn
 refine Q0x s t V _
  (λ_ x V'=>∃l k:_,x.o11=wv l/\WB l/\l.length=s.len/\x.t6=(k:Nat)/\k<=1/\0<=x.t14/\x.t14<=s.len /\
    wval (l.take x.t14.toNat)+wval ((dig b).take x.t14.toNat)=wval ((dig a).take x.t14.toNat)+k*4294967296^x.t14.toNat)
  (λ_ x _=>(s.len-x.t14).toNat) ⟨⟨by omega,by omega,by omega,by omega⟩,⟨List.replicate s.len 0,0,?_,WB.zeros _,by simp,rfl,by omega,Int.le_refl _,by show(0:Int)<=s.len; omega,by simp[wval]⟩,?_⟩
 . show(List.replicate (Int.toNat (s.len:Int)) [Value.int .u32 0]).flatten=_
   rw[Int.toNat_natCast,L05]
 rintro⟨k,i,o⟩ V2 hle2 ⟨l,k',ho,hwb,hl,hk,hk1,hi0,hi1,hval⟩
 simp only at ho hk hi0 hi1 hval hl ⊢
 subst hk
 have hx2:=hs.le hle2
 have hy2:=ht.le hle2
 refine⟨λhp => ?_,λhp => ?_⟩
 . simp only[decide_eq_true_eq]at hp
   have step:∀(r c:Nat) (V3:View),r+(dig b).getD i.toNat 0+k'=(dig a).getD i.toNat 0+c*4294967296->r<4294967296->c<=1 ->
    (∃l k:_,List.set o (0+Int.toNat i*1) (.int .u32 (r:Nat))=wv l/\WB l/\l.length=s.len/\(c:Int)=(k:Nat)/\k<=1/\0<=i+1/\i+1<=s.len /\
      wval (l.take (i+1).toNat)+wval ((dig b).take (i+1).toNat)=wval ((dig a).take (i+1).toNat)+k*4294967296^(i+1).toNat):=by
    intro r c V3 hrc hr hc
    refine⟨l.set i.toNat r,c,?_,hwb.set hr,by simpa using hl,rfl,hc,by omega,by omega,?_⟩
    . rw[ho,show 0+Int.toNat i*1=i.toNat by omega,S05]
    . rw[show(i+1).toNat=i.toNat+1 by omega,E07 (by omega),k01,k01,Nat.pow_succ]
      have:=congrArg (·*4294967296^i.toNat) hrc
      simp only[Nat.add_mul]at this
      grind
   have w1:=hx2.getD_lt i.toNat
   have w2:=hy2.getD_lt i.toNat
   refine⟨λhp2 => ?_,λhp2 => ?_⟩
   . simp only[decide_eq_true_eq]at hp2
     refine⟨⟨by omega,by omega,ht.isSome (by omega)⟩,_,hy2.get (by omega) (by omega),⟨by omega,by omega,hs.isSome (by omega)⟩,_,hx2.get (by omega) (by omega),?_⟩
     refine(G0f w1 w2 hk1).mono λv V3 hle3 hv=>⟨_,_,hv,⟨by omega,by omega⟩,by rw[ho,m01]; omega,?_⟩
     rw[i64w (n:=i+1) (by omega) (by omega)]
     obtain⟨l3,k3,g⟩:=step (((dig a).getD i.toNat 0+8589934592-(dig b).getD i.toNat 0-k')%4294967296) (if(dig a).getD i.toNat 0<(dig b).getD i.toNat 0+k' then 1 else 0) V3 (by split<;>omega) (by omega) (by split<;>omega)
     exact⟨⟨l3,k3,g⟩,by show((s.len:Int)-(i+1)).toNat<((s.len:Int)-i).toNat; omega⟩
   . simp only[decide_eq_false_iff_not]at hp2
     refine⟨⟨by omega,by omega,hs.isSome (by omega)⟩,_,hx2.get (by omega) (by omega),?_⟩
     have w2:(dig b).getD i.toNat 0=0:=by simp only[List.getD]; rw[List.getElem?_eq_none (by omega)]; rfl
     refine(G0f w1 (by omega:0<4294967296) hk1).mono λv V3 hle3 hv=>⟨_,_,hv,⟨by omega,by omega⟩,by rw[ho,m01]; omega,?_⟩
     rw[i64w (n:=i+1) (by omega) (by omega)]
     obtain⟨l3,k3,g⟩:=step (((dig a).getD i.toNat 0+8589934592-0-k')%4294967296) (if(dig a).getD i.toNat 0<0+k' then 1 else 0) V3 (by split<;>omega) (by omega) (by split<;>omega)
     exact⟨⟨l3,k3,g⟩,by show((s.len:Int)-(i+1)).toNat<((s.len:Int)-i).toNat; omega⟩
 . simp only[decide_eq_false_iff_not]at hp
   intro b1 V5 hle5 hb
   have hi:i.toNat=s.len:=by omega
   have hw:Y01 V5 (Sl.mk (some (Addr.mk b1 0 none)) (Int.toNat (s.len:Int)) (Int.toNat (s.len:Int))) l :=
    Y01.of_block (by rw[hb,ho]) (by omega) (Nat.le_refl _) hwb
   refine(u05 hw (by omega)).mono λv V6 _ ⟨r,hv,hr⟩=>⟨r,hv,r,rfl,?_⟩
   rw[hi,z01 (l:=dig a) (by omega),z01 (l:=dig b) (by omega),z01 (by omega),F01,F01]at hval
   have h3:=n0h hwb
   have e:wval l=a-b:=by
    rcases Nat.eq_zero_or_pos k' with h0|h0
    . subst h0; omega
    . have:k'=1:=by omega
      subst this
      rw[hl]at h3
      omega
   rw[e]at hr; exact hr
theorem C0i{a b:Nat}(ha:a<4294967296)(hb:b<4294967296):a*b<=18446744065119617025 :=
 Nat.le_trans (Nat.mul_le_mul (Nat.le_of_lt_succ ha) (Nat.le_of_lt_succ hb)) (by decide)
theorem M0c{V:View}{s t:Sl}{a b:Nat}(hs:L00 V s a)(ht:L00 V t b)(ha:wn a<=2^44)(hb:wn b<=2^44) :
 a00 prog N0z #[s.v,t.v] V λv V'=>∃r:Sl,v=r.v/\L00 V' r (a*b):=by
 have hsl:=hs.len
 have htl:=ht.len
 have hs0:s.len=0->a=0:=λh=>W05.1 (by simp only[wn]; omega)
 have ht0:t.len=0->b=0:=λh=>W05.1 (by simp only[wn]; omega)
 simp only[wn]at ha hb
 have zero:a*b=0->∀V',∃r:Sl,(Sl.mk none 0 0).v=r.v/\L00 V' r (a*b):=λh V'=>⟨_,rfl,by rw[h]; exact L00.zero V'⟩
 refine S0x s t V _ (λ_ _ _=>True)
  (λ_ x _=>∃i l,x=g05.mk (i:Nat) (wv l)/\i<=s.len/\WB l/\l.length=s.len+t.len/\seg l 0 (i+t.len)=wval ((dig a).take i)*b)
  (λ_ x _=>(s.len-x.t27).toNat)
  (λc x _=>∃i k cr l,c=I04.mk (i:Nat) ((dig a).getD i 0:Nat) (i:Nat)/\i<s.len/\x=i05.mk (cr:Nat) (k:Nat) (wv l)/\WB l/\l.length=s.len+t.len/\k<=t.len/\cr<4294967296 /\
    seg l 0 (i+t.len)+cr*4294967296^(i+k)=wval ((dig a).take i)*b+(dig a).getD i 0*wval ((dig b).take k)*4294967296^i)
  (λ_ x _=>(t.len-x.t34).toNat)
  ⟨⟨λh=>⟨λ_=>zero (by have h:(s.len:Int)=0:=(by simpa using h); rw[hs0 (by omega)]; simp) _,λh=>by cases h⟩,
    λ_=>⟨λh=>zero (by have h:(t.len:Int)=0:=(by simpa using h); rw[ht0 (by omega)]; simp) _,λ_=>trivial⟩⟩,?_⟩
 rintro _ V1 hle1 _
 rw[i64w (n:=(s.len:Int)+t.len) (by omega) (by omega)]
 have hn:Int.toNat ((s.len:Int)+t.len)=s.len+t.len:=by omega
 rw[hn]
 refine⟨⟨by omega,by omega,by omega,by omega⟩,⟨0,List.replicate (s.len+t.len) 0,?_,by omega,WB.zeros _,by simp,?_⟩,?_⟩
 . rw[L05]; rfl
 . rw[E0q]; simp[wval]
 rintro _ V2 hle2 ⟨i,l,rfl,hi,hwb,hl,hval⟩
 refine⟨λhp => ?_,λhp b1 V4 hle4 hb1 => ?_⟩
 . simp only[decide_eq_true_eq]at hp
   refine⟨⟨by show(0:Int)<=(i:Nat); omega,hp,hs.isSome (by omega)⟩,_,(hs.le (View.le_trans hle1 hle2)).get (by show(0:Int)<=(i:Nat); omega) hp,⟨i,0,0,l,rfl,by omega,rfl,hwb,hl,by omega,by omega,by simp[hval,wval]⟩,?_⟩
   rintro _ V3 hle3 ⟨i',k,cr,l',hc,hi',rfl,hwb',hl',hk,hcr,hval'⟩
   obtain rfl:i=i':=by simp only[I04.mk.injEq]at hc; omega
   have hbd:=(b05 a).getD i
   simp only[Int.toNat_natCast]
   refine⟨λhq => ?_,λhq => ?_⟩
   . simp only[decide_eq_true_eq]at hq
     have hbk:=(b05 b).getD k
     have hwl:=hwb'.getD (i+k)
     have hm:=C0i hbd hbk
     have hik:i+k<l'.length:=by omega
     rw[i64w (n:=(i:Int)+k) (by omega) (by omega),i64w (n:=(k:Int)+1) (by omega) (by omega)]
     have e1:Int.toNat ((i:Int)+k)=i+k:=by omega
     rw[e1]
     refine⟨⟨by omega,hq,ht.isSome (by omega)⟩,_,(ht.le (View.le_trans hle1 (View.le_trans hle2 hle3))).get (by show(0:Int)<=(k:Nat); omega) hq,⟨by omega,by omega⟩,((l'.getD (i+k) 0:Nat):Int),?_,⟨by omega,by omega⟩,?_,?_⟩
     . rw[show 0+(i+k)*1=i+k by omega]; exact m09 hik
     . rw[m01]; omega
     simp only[Int.toNat_natCast]
     rw[u64w (n:=(((dig a).getD i 0:Nat):Int)) (by omega) (by omega),u64w (n:=(((dig b).getD k 0:Nat):Int)) (by omega) (by omega),u64w (n:=((l'.getD (i+k) 0:Nat):Int)) (by omega) (by omega),<-Int.natCast_mul,
      u64w (n:=(((dig a).getD i 0*(dig b).getD k 0:Nat):Int)) (by omega) (by omega),u64w (n:=(((dig a).getD i 0*(dig b).getD k 0:Nat):Int)+((l'.getD (i+k) 0:Nat):Int)) (by omega) (by omega),u64w (by omega) (by omega)]
     have e2:(2:Int)^(min (Int.toNat 32) (u64.bits))=4294967296:=by decide
     rw[e2,Int.fdiv_eq_ediv_of_nonneg _ (by omega),u32m,show 0+(i+k)*1=i+k by omega]
     generalize hm':(dig a).getD i 0*(dig b).getD k 0=m at *
     generalize hd:cr+m+l'.getD (i+k) 0=z
     have e3:(cr:Int)+((m:Int)+((l'.getD (i+k) 0:Nat):Int))=(z:Nat):=by omega
     rw[e3]
     have e4:((z:Nat):Int)%4294967296=((z%4294967296:Nat):Int):=by omega
     have e5:((z:Nat):Int) / 4294967296=((z / 4294967296:Nat):Int):=by omega
     rw[e4,e5,S05]
     refine⟨⟨i,k+1,z / 4294967296,l'.set (i+k) (z%4294967296),rfl,by omega,by simp,hwb'.set (by omega),by simpa using hl',by omega,by omega,?_⟩,by show((t.len:Int)-((k:Int)+1)).toNat<((t.len:Int)-k).toNat; omega⟩
     have h1:=D0q (l:=l') (p:=i+k) (d:=z%4294967296) (j:=0) (k:=i+t.len) (by omega) (by omega) hik
     rw[Nat.sub_zero]at h1
     rw[k01,<-Nat.add_assoc,Nat.pow_succ]
     have h2:z%4294967296+z / 4294967296*4294967296=z:=by omega
     have h3:=congrArg (·*4294967296^(i+k)) h2
     rw[<-hd]at h3
     simp only[Nat.add_mul]at h3
     have h4:(dig a).getD i 0*((dig b).getD k 0*4294967296^k)*4294967296^i=m*4294967296^(i+k):=by rw[<-hm',Nat.pow_add]; grind
     rw[<-hd]at h1
     rw[Nat.mul_add,Nat.add_mul,h4,<-hd]
     have h5:∀q,q*(4294967296^(i+k)*4294967296)=q*4294967296*4294967296^(i+k):=by intro q; grind
     rw[h5]
     omega
   . simp only[decide_eq_false_iff_not]at hq
     have hkt:k=t.len:=by omega
     subst hkt
     rw[i64w (n:=(i:Int)+t.len) (by omega) (by omega),i64w (n:=(i:Int)+1) (by omega) (by omega)]
     have e1:Int.toNat ((i:Int)+t.len)=i+t.len:=by omega
     rw[e1,show 0+(i+t.len)*1=i+t.len by omega,u32w (by omega) (by omega),S05,m01]
     refine⟨⟨by omega,by omega⟩,by omega,⟨i+1,l'.set (i+t.len) cr,by simp,by omega,hwb'.set hcr,by simpa using hl',?_⟩,by show((s.len:Int)-((i:Int)+1)).toNat<((s.len:Int)-i).toNat; omega⟩
     rw[show i+1+t.len=i+t.len+1 by omega,i03 (by omega) (by omega),hval',k01,z01 (l:=dig b) (by omega),F01]
     grind
 . simp only[decide_eq_false_iff_not]at hp
   have hi':i=s.len:=by omega
   subst hi'
   rw[o08 (by omega),z01 (l:=dig a) (by omega),F01]at hval
   have hw:Y01 V4 (Sl.mk (some (Addr.mk b1 0 none)) (s.len+t.len) (s.len+t.len)) l:=Y01.of_block hb1 (by omega) (Nat.le_refl _) hwb
   refine(u05 hw (by omega)).mono λv V6 _ ⟨r,hv,hr⟩=>⟨r,hv,r,rfl,?_⟩
   rw[hval]at hr; exact hr
theorem l0m{V:View}{x y d:Nat}(hx:x<d)(hy:y<4294967296)(hd:d<4294967296) :
 a00 prog g0s #[.int .u32 (x:Int),.int .u32 (y:Int),.int .u32 (d:Int)] V λv _ =>
  v = .tuple #[.int .u32 (((x*4294967296+y) / d:Nat):Int),.int .u32 (((x*4294967296+y)%d:Nat):Int)]:=by
 refine a0q _ _ _ V _ ⟨λh=>⟨λh2 => ?_,λ_ => ?_⟩,λh => ?_⟩
 . have:(d:Int)<=x:=by simpa using h2
   omega
 . have e:(2:Int)^(min (Int.toNat 32) (u64.bits))=4294967296:=by decide
   rw[u64w (n:=(d:Int)) (by omega) (by omega),u64w (n:=(x:Int)) (by omega) (by omega),u64w (n:=(y:Int)) (by omega) (by omega),e,u64w (n:=(x:Int)*4294967296) (by omega) (by omega),
    show(x:Int)*4294967296=((x*4294967296:Nat):Int)by omega,or64 hy (by omega),u64w (n:=((x*4294967296+y:Nat):Int)) (by omega) (by omega),<-Int.ofNat_tdiv,<-Int.ofNat_tmod]
   have h1:(x*4294967296+y) / d<4294967296:=by
    rw[Nat.div_lt_iff_lt_mul (by omega)]
    have:=Nat.mul_le_mul_right 4294967296 (Nat.succ_le_of_lt hx)
    rw[Nat.succ_mul]at this
    omega
   have h2:(x*4294967296+y)%d<d:=Nat.mod_lt _ (by omega)
   generalize (x*4294967296+y) / d=q at *
   generalize (x*4294967296+y)%d=m at *
   rw[u64w (n:=(q:Int)) (by omega) (by omega),u32w (n:=(q:Int)) (by omega) (by omega),u32w (n:=(m:Int)) (by omega) (by omega)]
   exact⟨by omega,by omega,rfl⟩
 . have:(d:Int)=0:=by simpa using h
   omega
theorem S0g{V:View}{s:Sl}{a d:Nat}(hs:L00 V s a)(ha:wn a<=2^45)(hd0:0<d)(hd:d<4294967296) :
 a00 prog t0u #[s.v,.int .u32 (d:Int)] V λv V'=>∃r:Sl,v = .tuple #[r.v,.int .u32 ((a%d:Nat):Int)]/\L00 V' r (a / d):=by
 have hsl:=hs.len
 simp only[wn]at ha
 refine o0s s d V _
  (λ_ x _=>∃(j k rest:Nat) (l:List Nat),x=M03.mk (rest:Nat) ((j:Int)-1) (wv l)/\j+k=s.len/\WB l/\l.length=s.len/\rest<d/\seg (dig a) j k=seg l j k*d+rest)
  (λ_ x _=>(x.t8+1).toNat) ⟨⟨by omega,by omega,by omega,by omega⟩,⟨s.len,0,0,List.replicate s.len 0,?_,by omega,WB.zeros _,by simp,hd0,by simp[n06]⟩,?_⟩
 . rw[i64w (by omega) (by omega),Int.toNat_natCast,L05]; rfl
 rintro _ V1 hle ⟨j,k,rest,l,rfl,hjk,hwb,hl,hr,hval⟩
 refine⟨λhp => ?_,λhp b1 V3 hle3 hb1 => ?_⟩
 . simp only[ge_iff_le,decide_eq_true_eq]at hp
   obtain⟨i,rfl⟩:∃i,j=i+1:=⟨j-1,by omega⟩
   simp only[show(((i+1:Nat):Int)-1)=(i:Nat)by omega,Int.toNat_natCast]
   have hw:=(b05 a).getD i
   refine⟨⟨by omega,by omega,hs.isSome (by omega)⟩,_,(hs.le hle).get (i:=(i:Nat)) (by omega) (by omega),?_⟩
   simp only[Int.toNat_natCast]
   refine(l0m hr hw hd).mono λv V2 hle2 hv=>⟨_,_,hv,⟨by omega,by omega⟩,by rw[m01]; omega,?_⟩
   rw[i64w (by omega) (by omega),show 0+i*1=i by omega,S05]
   have h1:(rest*4294967296+(dig a).getD i 0) / d<4294967296:=by
    rw[Nat.div_lt_iff_lt_mul (by omega)]
    have:=Nat.mul_le_mul_right 4294967296 (Nat.succ_le_of_lt hr)
    rw[Nat.succ_mul]at this
    omega
   refine⟨⟨i,k+1,_,_,rfl,by omega,hwb.set h1,by simpa using hl,Nat.mod_lt _ hd0,?_⟩,by show((i:Int)-1+1).toNat<((i:Int)+1).toNat; omega⟩
   rw[Nat.add_comm k 1,W08,W08 _ i 1 k,hval,q09 (j:=i+1) (by omega),S02,S02,n06,n06,Nat.add_zero,b07,if_pos ⟨rfl,by omega⟩]
   have:=Nat.div_add_mod (rest*4294967296+(dig a).getD i 0) d
   generalize (rest*4294967296+(dig a).getD i 0) / d=q at *
   generalize (rest*4294967296+(dig a).getD i 0)%d=m at *
   simp only[Nat.pow_zero,Nat.mul_one,Nat.pow_one,Nat.zero_add,Nat.mul_add,Nat.add_mul]
   have e2:4294967296*(seg l (i+1) k*d)=4294967296*seg l (i+1) k*d:=by rw[Nat.mul_assoc]
   have e3:q*d=d*q:=Nat.mul_comm _ _
   omega
 . simp only[ge_iff_le,decide_eq_false_iff_not]at hp
   have hj:j=0:=by omega
   subst hj
   have hk:k=s.len:=by omega
   subst hk
   have hw:Y01 V3 (Sl.mk (some (Addr.mk b1 0 none)) (Int.toNat (s.len:Int)) (Int.toNat (s.len:Int))) l:=Y01.of_block hb1 (by omega) (Nat.le_refl _) hwb
   rw[o08 (by omega),o08 (by omega),F01]at hval
   have e1:a / d=wval l:=by rw[hval,Nat.mul_comm,Nat.mul_add_div hd0,Nat.div_eq_of_lt hr]; omega
   have e2:a%d=rest:=by rw[hval,Nat.mul_comm,Nat.mul_add_mod,Nat.mod_eq_of_lt hr]
   refine(u05 hw (by omega)).mono λv V6 _ ⟨r,hv,hr⟩=>⟨r,hv,r,?_,?_⟩
   . rw[e2]
   . rw[e1]; exact hr
theorem len8:∀n,n<256->u0r (ByteArray.mk #[0,1,2,2,3,3,3,3,4,4,4,4,4,4,4,4,5,5,5,5,5,5,5,5,5,5,5,5,5,5,5,5,6,6,6,6,6,6,6,6,6,6,6,6,6,6,6,6,6,6,6,6,6,6,6,6,6,6,6,6,6,6,6,6,7,7,7,7,7,7,7,7,7,7,7,7,7,7,7,7,7,7,7,7,7,7,7,7,7,7,7,7,7,7,7,7,7,7,7,7,7,7,7,7,7,7,7,7,7,7,7,7,7,7,7,7,7,7,7,7,7,7,7,7,7,7,7,7,8,8,8,8,8,8,8,8,8,8,8,8,8,8,8,8,8,8,8,8,8,8,8,8,8,8,8,8,8,8,8,8,8,8,8,8,8,8,8,8,8,8,8,8,8,8,8,8,8,8,8,8,8,8,8,8,8,8,8,8,8,8,8,8,8,8,8,8,8,8,8,8,8,8,8,8,8,8,8,8,8,8,8,8,8,8,8,8,8,8,8,8,8,8,8,8,8,8,8,8,8,8,8,8,8,8,8,8,8,8,8,8,8,8,8,8,8,8,8,8,8,8,8,8,8,8,8,8]) n=(bl n:Int):=by decide +kernel
theorem D13:ByteArray.size (ByteArray.mk #[0,1,2,2,3,3,3,3,4,4,4,4,4,4,4,4,5,5,5,5,5,5,5,5,5,5,5,5,5,5,5,5,6,6,6,6,6,6,6,6,6,6,6,6,6,6,6,6,6,6,6,6,6,6,6,6,6,6,6,6,6,6,6,6,7,7,7,7,7,7,7,7,7,7,7,7,7,7,7,7,7,7,7,7,7,7,7,7,7,7,7,7,7,7,7,7,7,7,7,7,7,7,7,7,7,7,7,7,7,7,7,7,7,7,7,7,7,7,7,7,7,7,7,7,7,7,7,7,8,8,8,8,8,8,8,8,8,8,8,8,8,8,8,8,8,8,8,8,8,8,8,8,8,8,8,8,8,8,8,8,8,8,8,8,8,8,8,8,8,8,8,8,8,8,8,8,8,8,8,8,8,8,8,8,8,8,8,8,8,8,8,8,8,8,8,8,8,8,8,8,8,8,8,8,8,8,8,8,8,8,8,8,8,8,8,8,8,8,8,8,8,8,8,8,8,8,8,8,8,8,8,8,8,8,8,8,8,8,8,8,8,8,8,8,8,8,8,8,8,8,8,8,8,8,8,8])=256:=by decide +kernel
theorem H0f{V:View}{x:Nat}(hx:x<4294967296) :
 a00 prog i0s #[.int .u32 (x:Int)] V λv _=>v = .int .i64 (bl x:Nat):=by
 have e16:(2:Int)^(min (Int.toNat 16) (u32.bits))=65536:=by decide
 have e8:(2:Int)^(min (Int.toNat 8) (u32.bits))=256:=by decide
 have fin:∀(n k m:Nat),n<256->k<=24->bl x=bl n+k->(m:Int)=k->Value.int .i64 (i64.wrap ((m:Int)+i64.wrap (u0r (ByteArray.mk #[0,1,2,2,3,3,3,3,4,4,4,4,4,4,4,4,5,5,5,5,5,5,5,5,5,5,5,5,5,5,5,5,6,6,6,6,6,6,6,6,6,6,6,6,6,6,6,6,6,6,6,6,6,6,6,6,6,6,6,6,6,6,6,6,7,7,7,7,7,7,7,7,7,7,7,7,7,7,7,7,7,7,7,7,7,7,7,7,7,7,7,7,7,7,7,7,7,7,7,7,7,7,7,7,7,7,7,7,7,7,7,7,7,7,7,7,7,7,7,7,7,7,7,7,7,7,7,7,8,8,8,8,8,8,8,8,8,8,8,8,8,8,8,8,8,8,8,8,8,8,8,8,8,8,8,8,8,8,8,8,8,8,8,8,8,8,8,8,8,8,8,8,8,8,8,8,8,8,8,8,8,8,8,8,8,8,8,8,8,8,8,8,8,8,8,8,8,8,8,8,8,8,8,8,8,8,8,8,8,8,8,8,8,8,8,8,8,8,8,8,8,8,8,8,8,8,8,8,8,8,8,8,8,8,8,8,8,8,8,8,8,8,8,8,8,8,8,8,8,8,8,8,8,8,8,8]) n))) = .int .i64 (bl x:Nat):=by
  intro n k m hn hk hb hm
  have h1:=s0i n
  have h2:bl n<=8:=by
   rcases Nat.eq_zero_or_pos n with h|h
   . subst h; simp[z0e]
   . have:=B0g (by omega:n≠0)
     have:=(Nat.pow_lt_pow_iff_right (a:=2) (n:=bl n-1) (m:=8) (by omega)).1 (by omega)
     omega
  rw[len8 n hn,i64w (n:=(bl n:Int)) (by omega) (by omega),i64w (by omega) (by omega),hm,hb]
  congr 1; omega
 have w8:∀n:Nat,n<256->u8.wrap (n:Int)=n:=by
  intro n hn
  rw[show u8.wrap (n:Int)=(n:Int)%256 from by simp[IntKind.wrap,IntKind.signed,IntKind.bits]]
  omega
 refine b0q _ V _ ?_
 rw[e16,e8,Int.fdiv_eq_ediv_of_nonneg _ (by omega),Int.fdiv_eq_ediv_of_nonneg _ (by omega),Int.fdiv_eq_ediv_of_nonneg _ (by omega),D13]
 rw[show(x:Int) / 65536 / 256=((x / 16777216:Nat):Int)by omega,show(x:Int) / 65536=((x / 65536:Nat):Int)by omega,show(x:Int) / 256=((x / 256:Nat):Int)by omega]
 refine⟨λh1=>⟨λh2 => ?_,λh2 => ?_⟩,λh1=>⟨λh2 => ?_,λh2 => ?_⟩⟩<;>simp only[ge_iff_le,decide_eq_true_eq,decide_eq_false_iff_not]at h1 h2
 . rw[w8 _ (by omega),Int.toNat_natCast]
   refine⟨⟨by omega,by omega⟩,fin _ 24 24 (by omega) (by omega) (P0v 24 (by omega)) rfl⟩
 . rw[w8 _ (by omega),Int.toNat_natCast]
   refine⟨⟨by omega,by omega⟩,fin _ 16 16 (by omega) (by omega) (P0v 16 (by omega)) rfl⟩
 . rw[w8 _ (by omega),Int.toNat_natCast]
   refine⟨⟨by omega,by omega⟩,fin _ 8 8 (by omega) (by omega) (P0v 8 (by omega)) rfl⟩
 . rw[w8 _ (by omega),Int.toNat_natCast]
   refine⟨⟨by omega,by omega⟩,fin _ 0 0 (by omega) (by omega) rfl rfl⟩
theorem Y0d{V:View}{x:Nat}(hx:x<4294967296) :
 a00 prog n0f #[.int .u32 (x:Int)] V λv _=>v = .int .i64 ((32-bl x:Nat):Int):=by
 refine a0f _ V _ ((H0f hx).mono λv V' _ hv=>⟨_,hv,?_⟩)
 have h2:bl x<=32:=by
  rcases Nat.eq_zero_or_pos x with h|h
  . subst h; simp[z0e]
  . have:=B0g (by omega:x≠0)
    have:=(Nat.pow_lt_pow_iff_right (a:=2) (n:=bl x-1) (m:=32) (by omega)).1 (by omega)
    omega
 rw[i64w (by omega) (by omega)]
 congr 1; omega
theorem t09{a:Nat}(h:a≠0):(dig a).getD (wn a-1) 0*4294967296^(wn a-1)<=a/\a<((dig a).getD (wn a-1) 0+1)*4294967296^(wn a-1)/\(dig a).getD (wn a-1) 0≠0:=by
 have h0:wn a≠0:=λe=>h (W05.1 e)
 have h1:=k01 (dig a) (wn a-1)
 rw[z01 (by simp only[wn]at h0 ⊢; omega),F01]at h1
 have h2:=n0h ((b05 a).take (wn a-1))
 have h3:((dig a).take (wn a-1)).length=wn a-1:=by simp[wn]
 rw[h3]at h2
 refine⟨by omega,by rw[Nat.succ_mul]; omega,?_⟩
 have h4:(dig a).getLast?=some ((dig a).getD (wn a-1) 0):=by
  rw[List.getLast?_eq_getElem?]
  simp only[wn]at h0 ⊢
  simp only[List.getD]
  rw[List.getElem?_eq_getElem (by omega)]; rfl
 exact N0v h4
theorem D15{a:Nat}(h:a≠0):bl a=bl ((dig a).getD (wn a-1) 0)+32*(wn a-1):=by
 obtain⟨h1,h2,h3⟩:=t09 h
 have e:(4294967296:Nat)^(wn a-1)=2^(32*(wn a-1)):=by rw[Nat.pow_mul]
 rw[e]at h1 h2
 exact O0v _ h3 h1 h2
theorem D0i(n:Nat):2^n=2^(n%32)*4294967296^(n / 32):=by
 have e:(4294967296:Nat)=2^32:=by decide
 rw[e,<-Nat.pow_mul,<-Nat.pow_add]
 congr 1; omega
theorem E13{r:Nat}(h:r<=64):(2:Int)^(min r (IntKind.bits .u64))=((2^r:Nat):Int):=by
 have e:IntKind.bits .u64=64:=rfl
 rw[e,Nat.min_eq_left h]; simp
theorem C05{V:View}{s:Sl}{a n:Nat}(hs:L00 V s a)(ha:wn a<=2^44)(hn:n<=2^44) :
 a00 prog f10 #[s.v,.int .i64 (n:Int)] V λv V'=>∃r:Sl,v=r.v/\L00 V' r (a*2^n):=by
 have hsl:=hs.len
 have hs0:s.len=0->a=0:=λh=>W05.1 (by simp only[wn]; omega)
 simp only[wn]at ha
 obtain⟨W,hW⟩:∃W,W=n / 32:=⟨_,rfl⟩
 obtain⟨R,hR⟩:∃R,R=2^(n%32):=⟨_,rfl⟩
 have hR1:R<=2147483648:=by rw[hR]; exact Nat.pow_le_pow_right (by omega) (show n%32<=31 by omega)
 obtain⟨Q,hQ⟩:∃Q,R*Q=4294967296:=⟨2^(32-n%32),by rw[hR,<-Nat.pow_add,show n%32+(32-n%32)=32 by omega]⟩
 refine T0x s n V _ (λ_ _ _=>True)
  (λ_ x _=>∃(i:Nat) (l:List Nat),x=j05.mk (i:Nat) (wv l)/\i<=s.len/\WB l/\l.length=s.len+W+1/\seg l 0 (i+W+1)=wval ((dig a).take i)*R*4294967296^W/\l.getD (i+W) 0<R)
  (λ_ x _=>(s.len-x.t32).toNat)
  ⟨⟨λh=>⟨λ_=>⟨s,rfl,by have h:(s.len:Int)=0:=(by simpa using h); have:=hs0 (by omega); subst this; simpa using hs⟩,λh=>by cases h⟩,
    λ_=>⟨λh=>⟨s,rfl,by have h:n=0:=(by simpa using h); subst h; simpa using hs⟩,λ_=>trivial⟩⟩,?_⟩
 rintro _ V1 hle1 _
 rw[td32,tm32,<-hW,i64w (n:=(W:Int)) (by omega) (by omega),i64w (n:=(s.len:Int)+W) (by omega) (by omega),i64w (n:=(s.len:Int)+W+1) (by omega) (by omega),
  u64w (n:=((n%32:Nat):Int)) (by omega) (by omega),Int.toNat_natCast,E13 (show n%32<=64 by omega),<-hR]
 have hN:Int.toNat ((s.len:Int)+W+1)=s.len+W+1:=by omega
 rw[hN]
 refine⟨⟨by omega,by omega,by omega,by omega⟩,⟨0,List.replicate (s.len+W+1) 0,?_,by omega,WB.zeros _,by simp,?_,?_⟩,?_⟩
 . rw[L05]; rfl
 . rw[E0q]; simp[wval]
 . have:(List.replicate (s.len+W+1) 0).getD (0+W) 0=0:=by simp only[List.getD,List.getElem?_replicate]; split<;>rfl
   rw[this,hR]; exact Nat.two_pow_pos _
 rintro _ V2 hle2 ⟨i,l,rfl,hi,hwb,hl,hval,hlt⟩
 refine⟨λhp => ?_,λhp b1 V4 hle4 hb1 => ?_⟩
 . simp only[decide_eq_true_eq]at hp
   have hai:=(b05 a).getD i
   have hW2:=hwb.getD (i+W)
   simp only[Int.toNat_natCast]
   rw[i64w (n:=(i:Int)+W) (by omega) (by omega),i64w (n:=(i:Int)+W+1) (by omega) (by omega),i64w (n:=(i:Int)+1) (by omega) (by omega)]
   have e1:Int.toNat ((i:Int)+W)=i+W:=by omega
   have e2:Int.toNat ((i:Int)+W+1)=i+W+1:=by omega
   rw[e1,e2,show 0+(i+W)*1=i+W by omega,show 0+(i+W+1)*1=i+W+1 by omega]
   refine⟨⟨by omega,hp,hs.isSome (by omega)⟩,_,(hs.le (View.le_trans hle1 hle2)).get (i:=(i:Nat)) (by omega) hp,by omega,⟨by omega,by omega⟩,((l.getD (i+W) 0:Nat):Int),m09 (by omega),⟨by omega,by omega⟩,by rw[m01]; omega,⟨by omega,by omega⟩,by simp only[List.length_set,m01]; omega,?_⟩
   simp only[Int.toNat_natCast]
   generalize hA:(dig a).getD i 0=A at *
   have hm:A*R<=4294967295*2147483648:=Nat.mul_le_mul (by omega) hR1
   rw[u64w (n:=(A:Int)) (by omega) (by omega),<-Int.natCast_mul,u64w (n:=((A*R:Nat):Int)) (by omega) (by omega)]
   have e3:(2:Int)^(min (Int.toNat 32) (u64.bits))=4294967296:=by decide
   rw[e3,Int.fdiv_eq_ediv_of_nonneg _ (by omega)]
   have e4:u32.wrap (((A*R:Nat):Int) / 4294967296)=((A*R / 4294967296:Nat):Int):=by rw[u32w (by omega) (by omega)]; omega
   have e5:u32.wrap ((A*R:Nat):Int)=((A*R%4294967296:Nat):Int):=by rw[u32m]; omega
   have e6:A*R%4294967296=(A%Q)*R:=by
    rw[<-hQ,Nat.mul_comm A R,Nat.mul_mod_mul_left,Nat.mul_comm]
   have hhi:A*R / 4294967296<R:=by
    rw[Nat.div_lt_iff_lt_mul (by omega),Nat.mul_comm]
    exact Nat.mul_lt_mul_of_pos_left (by omega) (by rw[hR]; exact Nat.two_pow_pos _)
   have hlo:l.getD (i+W) 0+A*R%4294967296<4294967296:=by
    rw[e6]
    have h0 : 0 < Q := by rcases Nat.eq_zero_or_pos Q with h | h; · subst h; simp at hQ
                          . exact h
    have h1:A%Q+1<=Q:=Nat.mod_lt _ h0
    have h2:=Nat.mul_le_mul_right R h1
    rw[Nat.succ_mul,Nat.mul_comm Q R,hQ]at h2
    omega
   rw[e4,e5,D16 hW2 (Nat.mod_lt _ (by omega)),e6]
   have hor:(l.getD (i+W) 0 ||| A%Q*R)=l.getD (i+W) 0+A%Q*R:=by
    rw[hR]at hlt ⊢; exact z14 hlt
   rw[hor,<-e6,u32w (by omega) (by omega),S05,S05]
   refine⟨⟨i+1,(l.set (i+W) (l.getD (i+W) 0+A*R%4294967296)).set (i+W+1) (A*R / 4294967296),rfl,by omega,(hwb.set (by omega)).set (by omega),by simpa using hl,?_,?_⟩,by show((s.len:Int)-((i:Int)+1)).toNat<((s.len:Int)-i).toNat; omega⟩
   . rw[show i+1+W+1=(i+W+1)+1 by omega,i03 (by omega) (by simp; omega)]
     have h1:=D0q (l:=l) (p:=i+W) (d:=l.getD (i+W) 0+A*R%4294967296) (j:=0) (k:=i+W+1) (by omega) (by omega) (by omega)
     rw[Nat.sub_zero,hval]at h1
     rw[k01,hA,Nat.pow_succ]
     have h2:A*R%4294967296+A*R / 4294967296*4294967296=A*R:=by omega
     have h3:=congrArg (·*4294967296^(i+W)) h2
     simp only[Nat.add_mul]at h1 h3 ⊢
     have h4:A*4294967296^i*R*4294967296^W=A*R*4294967296^(i+W):=by rw[Nat.pow_add]; grind
     have h5:∀q,q*(4294967296^(i+W)*4294967296)=q*4294967296*4294967296^(i+W):=by intro q; grind
     rw[h4,h5]
     omega
   . rw[b07,if_pos ⟨by omega,by simp; omega⟩]; exact hhi
 . simp only[decide_eq_false_iff_not]at hp
   have hi':i=s.len:=by omega
   subst hi'
   rw[o08 (by omega),z01 (l:=dig a) (by omega),F01]at hval
   have hw:Y01 V4 (Sl.mk (some (Addr.mk b1 0 none)) (s.len+W+1) (s.len+W+1)) l:=Y01.of_block hb1 (by omega) (Nat.le_refl _) hwb
   refine(u05 hw (by omega)).mono λv V6 _ ⟨r,hv,hr⟩=>⟨r,hv,r,rfl,?_⟩
   rw[hval,Nat.mul_assoc,hR,hW,<-D0i]at hr; exact hr
theorem o0v(a i:Nat):a / 4294967296^i%(4294967296*4294967296)=(dig a).getD i 0+4294967296*(dig a).getD (i+1) 0:=by
 rw[Nat.mod_mul,q0i,q0i,Nat.pow_succ,Nat.div_div_eq_div_mul]
theorem k0w{a W i R Q:Nat}(hQ:R*Q=4294967296)(_:0<R) :
 ((dig a).getD (W+i) 0+4294967296*(dig a).getD (W+i+1) 0) / R%4294967296=(a / (4294967296^W*R)) / 4294967296^i%4294967296:=by
 have h0:4294967296*4294967296=R*(4294967296*Q):=by rw[<-Nat.mul_assoc,Nat.mul_comm R,Nat.mul_assoc,hQ]
 rw[<-o0v,h0,Nat.mod_mul_right_div_self,Nat.mod_mul_right_mod]
 rw[Nat.div_div_eq_div_mul,Nat.div_div_eq_div_mul,Nat.pow_add]
 congr 2
 grind
theorem d0t{V:View}{s:Sl}{a n:Nat}(hs:L00 V s a)(ha:wn a<=2^44)(hn:n<=2^44) :
 a00 prog g10 #[s.v,.int .i64 (n:Int)] V λv V'=>∃r:Sl,v=r.v/\L00 V' r (a / 2^n):=by
 have hsl:=hs.len
 have hwn:wn a=s.len:=by simp only[wn]; exact hsl.symm
 have haw:=o0h a
 rw[hwn]at ha haw
 obtain⟨W,hW⟩:∃W,W=n / 32:=⟨_,rfl⟩
 obtain⟨R,hR⟩:∃R,R=2^(n%32):=⟨_,rfl⟩
 have hR0:0<R:=by rw[hR]; exact Nat.two_pow_pos _
 obtain⟨Q,hQ⟩:∃Q,R*Q=4294967296:=⟨2^(32-n%32),by rw[hR,<-Nat.pow_add,show n%32+(32-n%32)=32 by omega]⟩
 have hpow:2^n=4294967296^W*R:=by rw[hR,hW,Nat.mul_comm,<-D0i]
 refine U0x s n V _
  (λ_ x _=>∃(i:Nat) (l:List Nat),x=T03.mk (i:Nat) (wv l)/\i<=s.len-W/\WB l/\l.length=s.len-W/\seg l 0 i=a / 2^n%4294967296^i)
  (λ_ x _=>(s.len-x.t26).toNat) ?_
 rw[td32,tm32,<-hW,i64w (n:=(W:Int)) (by omega) (by omega)]
 refine⟨λh=>⟨_,rfl,?_⟩,λh => ?_⟩
 . simp only[ge_iff_le,decide_eq_true_eq]at h
   have:a / 2^n=0:=by
    refine Nat.div_eq_of_lt (Nat.lt_of_lt_of_le haw ?_)
    rw[hpow]
    have h1:4294967296^s.len<=4294967296^W:=Nat.pow_le_pow_right (by omega) (by omega)
    have:=Nat.mul_le_mul_left (4294967296^W) hR0
    omega
   rw[this]; exact L00.zero V
 simp only[ge_iff_le,decide_eq_false_iff_not]at h
 rw[i64w (n:=(s.len:Int)-W) (by omega) (by omega),u64w (n:=((n%32:Nat):Int)) (by omega) (by omega),Int.toNat_natCast,E13 (show n%32<=64 by omega),<-hR]
 have hN:Int.toNat ((s.len:Int)-W)=s.len-W:=by omega
 rw[hN]
 refine⟨⟨by omega,by omega,by omega,by omega⟩,⟨0,List.replicate (s.len-W) 0,?_,by omega,WB.zeros _,by simp,?_⟩,?_⟩
 . rw[L05]; rfl
 . simp[n06,Nat.mod_one]
 rintro _ V2 hle2 ⟨i,l,rfl,hi,hwb,hl,hval⟩
 refine⟨λhp => ?_,λhp b1 V4 hle4 hb1 => ?_⟩
 . simp only[decide_eq_true_eq]at hp
   simp only[Int.toNat_natCast]
   rw[i64w (n:=(i:Int)+W) (by omega) (by omega),i64w (n:=(i:Int)+W+1) (by omega) (by omega),i64w (n:=(i:Int)+1) (by omega) (by omega)]
   have w1:=(b05 a).getD (W+i)
   have w2:=(b05 a).getD (W+i+1)
   have e1:Int.toNat ((i:Int)+W)=W+i:=by omega
   have e2:Int.toNat ((i:Int)+W+1)=W+i+1:=by omega
   have e3:(2:Int)^(min (Int.toNat 32) (u64.bits))=4294967296:=by decide
   have word:=k0w (a:=a) (W:=W) (i:=i) hQ hR0
   rw[<-hpow]at word
   have step:∀z:Nat,z=(dig a).getD (W+i) 0+4294967296*(dig a).getD (W+i+1) 0 ->
    (∃(i':Nat) (l':List Nat),T03.mk ((i:Int)+1) ((wv l).set (0+i*1) (.int .u32 (u32.wrap (Int.fdiv (z:Int) (R:Nat)))))=T03.mk (i':Nat) (wv l')/\i'<=s.len-W/\WB l'/\l'.length=s.len-W/\seg l' 0 i'=a / 2^n%4294967296^i'):=by
    intro z hz
    have ez:u32.wrap (Int.fdiv (z:Int) (R:Nat))=((a / 2^n / 4294967296^i%4294967296:Nat):Int):=by
     rw[Int.fdiv_eq_ediv_of_nonneg _ (by omega),u32m,<-word,<-hz]; rfl
    rw[ez,show 0+i*1=i by omega,S05]
    refine⟨i+1,_,rfl,by omega,hwb.set (Nat.mod_lt _ (by omega)),by simpa using hl,?_⟩
    rw[i03 (by omega) (by omega),hval,Nat.pow_succ,Nat.mod_mul,Nat.mul_comm (4294967296^i)]
   have hme:((s.len:Int)-((i:Int)+1)).toNat<((s.len:Int)-i).toNat:=by omega
   have g1:=(hs.le hle2).get (i:=(i:Int)+W) (by omega) (by omega)
   rw[e1]at g1 ⊢
   refine⟨⟨by omega,by omega,hs.isSome (by omega)⟩,_,g1,λhq => ?_,λhq => ?_⟩
   . simp only[decide_eq_true_eq]at hq
     have g2:=(hs.le hle2).get (i:=(i:Int)+W+1) (by omega) (by omega)
     rw[e2]at g2 ⊢
     refine⟨⟨by omega,by omega,hs.isSome (by omega)⟩,_,g2,by omega,⟨by omega,by omega⟩,by rw[m01]; omega,?_⟩
     rw[e3,u64w (n:=(((dig a).getD (W+i) 0:Nat):Int)) (by omega) (by omega),u64w (n:=(((dig a).getD (W+i+1) 0:Nat):Int)) (by omega) (by omega),u64w (n:=(((dig a).getD (W+i+1) 0:Nat):Int)*4294967296) (by omega) (by omega),
      show(((dig a).getD (W+i+1) 0:Nat):Int)*4294967296=(((dig a).getD (W+i+1) 0*4294967296:Nat):Int)by omega,B16 w1 w2,u64w (by omega) (by omega)]
     exact⟨step _ (by omega),hme⟩
   . simp only[decide_eq_false_iff_not]at hq
     refine⟨by omega,⟨by omega,by omega⟩,by rw[m01]; omega,?_⟩
     rw[u64w (n:=(((dig a).getD (W+i) 0:Nat):Int)) (by omega) (by omega)]
     have h0:(dig a).getD (W+i+1) 0=0:=by simp only[List.getD]; rw[List.getElem?_eq_none (by omega)]; rfl
     exact⟨step _ (by omega),hme⟩
 . simp only[decide_eq_false_iff_not]at hp
   have hi':i=s.len-W:=by omega
   subst hi'
   have hw:Y01 V4 (Sl.mk (some (Addr.mk b1 0 none)) (s.len-W) (s.len-W)) l:=Y01.of_block hb1 (by omega) (Nat.le_refl _) hwb
   refine(u05 hw (by omega)).mono λv V6 _ ⟨r,hv,hr⟩=>⟨r,hv,r,rfl,?_⟩
   rw[o08 (by omega)]at hval
   have hlt:a / 2^n<4294967296^(s.len-W):=by
    rw[hpow,<-Nat.div_div_eq_div_mul]
    refine Nat.lt_of_le_of_lt (Nat.div_le_self _ _) ?_
    rw[Nat.div_lt_iff_lt_mul (Nat.pow_pos (by omega)),<-Nat.pow_add,show s.len-W+W=s.len by omega]
    exact haw
   rw[hval,Nat.mod_eq_of_lt hlt]at hr; exact hr
theorem p0v:(2:Int)^(min (Int.toNat 32) (u64.bits))=4294967296:=by decide
theorem m11:(2:Int)^(min (Int.toNat 63) (u64.bits))=9223372036854775808:=by decide
theorem C0e{u p b:Nat}(hu:u<4294967296)(hp:p<4294967296)(hb:b<=1):∃low br:Nat,low<4294967296/\br<=1/\low+p+b=u+br*4294967296 /\
 u32.wrap (u64.wrap (u64.wrap ((u:Int)-p)-b))=(low:Nat)/\Int.fdiv (u64.wrap (u64.wrap ((u:Int)-p)-b)) 9223372036854775808=(br:Nat):=by
 refine⟨(u+8589934592-p-b)%4294967296,if u<p+b then 1 else 0,by omega,by split<;>omega,by split<;>omega,?_,?_⟩
 . rw[u32m,u64m,u64m]; omega
 . rw[u64m,u64m,Int.fdiv_eq_ediv_of_nonneg _ (by omega)]; split<;>omega
theorem Y0q{V:View}{sv:Sl}{vN q j m:Nat}{l:List Nat}(hv:L00 V sv vN)(hq:q<4294967296)(hl:l.length=m)(hwb:WB l)(hj:j+sv.len<m)(hm:m<=2^46) :
 d0j prog G0x (λb=>(Value.slice (some ⟨b,0,none⟩) m m::[sv.v,Value.int .u64 (q:Nat),Value.int .i64 (j:Nat)]:List Value)) p17 (wv l) V λv l2 _ =>
  ∃neg l',v = .bool neg/\l2=wv l'/\WB l'/\l'.length=m/\(∀i,i<j\/j+sv.len<i->l'.getD i 0=l.getD i 0) /\
   seg l' j (sv.len+1)+q*vN=seg l j (sv.len+1)+(if neg then 4294967296^(sv.len+1)else 0):=by
 have hvl:=hv.len
 refine B0u 0 m m (wv l) sv q j V _
  (λ_ x _=>∃(i c b:Nat) (l':List Nat),x=A04.mk (c:Nat) (b:Nat) (i:Nat) (wv l')/\i<=sv.len/\WB l'/\l'.length=m/\c<4294967296/\b<=1 /\
    (∀p,p<j\/j+i<=p->l'.getD p 0=l.getD p 0)/\seg l' j i+q*wval ((dig vN).take i)=seg l j i+(c+b)*4294967296^i)
  (λ_ x _=>(sv.len-x.t18).toNat) ⟨⟨0,0,0,l,rfl,by omega,hwb,hl,by omega,by omega,λ_ _=>rfl,by simp[n06,wval]⟩,?_⟩
 rintro _ V1 hle ⟨i,c,b,l',rfl,hi,hwb',hl',hc,hb,hout,hval⟩
 simp only[p0v,m11]
 refine⟨λhp => ?_,λhp => ?_⟩
 . simp only[decide_eq_true_eq]at hp
   rw[i64w (n:=(i:Int)+j) (by omega) (by omega),i64w (n:=(i:Int)+1) (by omega) (by omega),show 0+Int.toNat ((i:Int)+j)*1=j+i by omega]
   have hvi:=(b05 vN).getD i
   have hui:=hwb'.getD (j+i)
   refine⟨⟨by omega,hp,hv.isSome (by omega)⟩,_,(hv.le hle).get (i:=(i:Nat)) (by omega) hp,⟨by omega,by omega⟩,_,m09 (by omega),⟨by omega,by omega⟩,by rw[m01]; omega,?_⟩
   simp only[Int.toNat_natCast]
   generalize hA:(dig vN).getD i 0=A at *
   generalize hU:l'.getD (j+i) 0=U at *
   have hm':=C0i hq hvi
   rw[u64w (n:=(A:Int)) (by omega) (by omega),<-Int.natCast_mul,u64w (n:=((q*A:Nat):Int)) (by omega) (by omega),u64w (n:=((q*A:Nat):Int)+c) (by omega) (by omega)]
   obtain⟨P,hP⟩:∃P,P=q*A+c:=⟨_,rfl⟩
   rw[show((q*A:Nat):Int)+c=(P:Nat)by omega,show u32.wrap (P:Int)=((P%4294967296:Nat):Int)by rw[u32m]; omega,
    u64w (n:=((P%4294967296:Nat):Int)) (by omega) (by omega),u64w (n:=(U:Int)) (by omega) (by omega),Int.fdiv_eq_ediv_of_nonneg (P:Int) (by omega),
    show(P:Int) / 4294967296=((P / 4294967296:Nat):Int)by omega]
   obtain⟨low,br,h1,h2,h3,h4,h5⟩:=C0e hui (Nat.mod_lt P (by omega:0<4294967296)) hb
   rw[h4,h5,S05]
   refine⟨⟨i+1,P / 4294967296,br,l'.set (j+i) low,rfl,by omega,hwb'.set h1,by simpa using hl',by omega,h2,?_,?_⟩,by show((sv.len:Int)-((i:Int)+1)).toNat<((sv.len:Int)-i).toNat; omega⟩
   . intro p hp
     rw[b07,if_neg (by omega)]; exact hout p (by omega)
   . have hu0:l.getD (j+i) 0=U:=by rw[<-hU]; exact(hout (j+i) (by omega)).symm
     rw[i03 rfl (by omega),S02,k01,hA,hu0,Nat.pow_succ]
     have h6:low+q*A+c+b=U+(P / 4294967296+br)*4294967296:=by
      have:=Nat.div_add_mod P 4294967296
      omega
     have h7:=congrArg (·*4294967296^i) h6
     simp only[Nat.add_mul]at h7 hval ⊢
     have h8:q*(wval (List.take i (dig vN))+A*4294967296^i)=q*wval (List.take i (dig vN))+q*A*4294967296^i:=by rw[Nat.mul_add,Nat.mul_assoc]
     have h9:∀z,z*(4294967296^i*4294967296)=z*4294967296*4294967296^i:=by intro z; grind
     rw[h8,h9,h9]
     omega
 . simp only[decide_eq_false_iff_not]at hp
   have hi':i=sv.len:=by omega
   subst hi'
   rw[i64w (n:=(j:Int)+sv.len) (by omega) (by omega),show 0+Int.toNat ((j:Int)+sv.len)*1=j+sv.len by omega]
   have hui:=hwb'.getD (j+sv.len)
   refine⟨⟨by omega,by omega⟩,_,m09 (by omega),⟨by omega,by omega⟩,by rw[m01]; omega,?_⟩
   generalize hU:l'.getD (j+sv.len) 0=U at *
   rw[u64w (n:=(U:Int)) (by omega) (by omega)]
   obtain⟨low,br,h1,h2,h3,h4,h5⟩:=C0e hui hc hb
   rw[h4,h5,S05]
   refine⟨_,_,rfl,rfl,hwb'.set h1,by simpa using hl',?_,?_⟩
   . intro p hp
     rw[b07,if_neg (by omega)]; exact hout p (by omega)
   . have hu0:l.getD (j+sv.len) 0=U:=by rw[<-hU]; exact(hout (j+sv.len) (by omega)).symm
     rw[z01 (l:=dig vN) (by omega),F01]at hval
     rw[i03 rfl (by omega),S02,hu0,Nat.pow_succ]
     have h7:=congrArg (·*4294967296^sv.len) h3
     simp only[Nat.add_mul]at h7 hval
     have hif:(if((br:Nat):Int) != 0 then 4294967296^sv.len*4294967296 else 0)=br*4294967296*4294967296^sv.len:=by
      rcases Nat.eq_zero_or_pos br with h|h
      . subst h; simp
      . have:br=1:=by omega
        subst this; simp[Nat.mul_comm]
     rw[hif]
     omega
theorem l0w{b sh:Nat}(hb:b≠0)(hsh:sh=32-bl ((dig b).getD (wn b-1) 0)) :
 sh<=31/\wn (b*2^sh)=wn b/\2147483648*4294967296^(wn b-1)<=b*2^sh:=by
 obtain⟨h1,h2,h3⟩:=t09 hb
 have hlt:=(b05 b).getD (wn b-1)
 have hn:wn b≠0:=λe=>hb (W05.1 e)
 obtain⟨k,hk⟩:∃k,wn b=k+1:=⟨wn b-1,by omega⟩
 rw[hk,Nat.add_sub_cancel]at h1 h2 h3 hlt hsh
 rw[hk,Nat.add_sub_cancel]
 generalize (dig b).getD k 0=t at *
 have a1:=s0i t
 have a2:=B0g h3
 have a3:=b0k h3
 have a4:bl t<=32:=by
  have:=(Nat.pow_lt_pow_iff_right (a:=2) (n:=bl t-1) (m:=32) (by omega)).1 (by omega)
  omega
 have e1:2^(bl t-1)*2^sh=2147483648:=by rw[<-Nat.pow_add,show bl t-1+sh=31 by omega]
 have e2:2^bl t*2^sh=4294967296:=by rw[<-Nat.pow_add,show bl t+sh=32 by omega]
 have hP:0<4294967296^k:=Nat.pow_pos (by omega)
 have lo:2147483648*4294967296^k<=b*2^sh:=by
  rw[<-e1]
  have h4:=Nat.mul_le_mul_right (4294967296^k*2^sh) a2
  have h5:=Nat.mul_le_mul_right (2^sh) h1
  have e3:2^(bl t-1)*2^sh*4294967296^k=2^(bl t-1)*(4294967296^k*2^sh):=by grind
  have e4:t*4294967296^k*2^sh=t*(4294967296^k*2^sh):=by grind
  omega
 have hi:b*2^sh<4294967296^(k+1):=by
  have h4:=Nat.mul_le_mul_right (4294967296^k*2^sh) (Nat.succ_le_of_lt a1)
  have h5:=Nat.mul_lt_mul_of_pos_right h2 (Nat.two_pow_pos sh)
  have e3:4294967296^(k+1)=2^bl t*(4294967296^k*2^sh):=by rw[Nat.pow_succ,<-e2]; grind
  have e4:(t+1)*4294967296^k*2^sh=(t+1)*(4294967296^k*2^sh):=by grind
  simp only[Nat.succ_eq_add_one]at h4
  omega
 refine⟨by omega,?_,lo⟩
 have h6:=y04 hi
 rcases Nat.lt_or_ge (wn (b*2^sh)) (k+1)with h7|h7
 . exfalso
   have h8:=o0h (b*2^sh)
   have h9:4294967296^wn (b*2^sh)<=4294967296^k:=Nat.pow_le_pow_right (by omega) (by omega)
   omega
 . omega
theorem Y01.pre{V:View}{s:Sl}{l:List Nat}(h:Y01 V s l){k c:Nat}(hk:k<=l.length)(hc:k<=c):Y01 V (Sl.mk s.a k c) (l.take k):=by
 refine⟨λi d hi => ?_,by simp; omega,hc,h.wb.take k⟩
 have hi':i<k:=by
  rcases Nat.lt_or_ge i k with h|h
  . exact h
  . rw[List.getElem?_eq_none (by simp; omega)]at hi; simp at hi
 rw[List.getElem?_take_of_lt hi']at hi
 exact h.load i d hi
theorem i0k{a b:List Nat}(h:wv a=wv b):a=b:=by
 have:=congrArg (List.map λv=>match v with|Value.int _ n=>n.toNat|_=>0) h
 simpa [wv,Function.comp_def]using this
theorem Y01.has{V:View}{s:Sl}{l:List Nat}(h:Y01 V s l):View.has V s.a (wv l):=by
 intro i v hi
 simp only[wv,List.getElem?_map,Option.map_eq_some_iff]at hi
 obtain⟨d,hd,rfl⟩:=hi
 exact h.load i d hd
structure DivI (X vN n m j:Nat) (u qd:List Nat):Prop where
 jl:j<=m-n
 wu:WB u
 lu:u.length=m
 wq:WB qd
 lq:qd.length=m-n
 eq:X=seg u 0 (j+n)+vN*(4294967296^j*seg qd j (m-n-j))
 lt:seg u j n<vN
theorem DivI.next{X vN n m j R g:Nat}{u u' qd:List Nat}(hnm:n<=m)(h:DivI X vN n m (j+1) u qd)(hR:seg u j (n+1)=R+g*vN)(hlt:R<vN)(hg:g<4294967296)
 (wu':WB u') (lu':u'.length=m) (lo:seg u' 0 j=seg u 0 j) (hi:seg u' j n=R):DivI X vN n m j u' (qd.set j g):=by
 have hj:=h.jl
 have hq:=h.lq
 refine⟨by omega,wu',lu',h.wq.set hg,by simpa using hq,?_,by rw[hi]; exact hlt⟩
 rw[h.eq,show m-n-j=1+(m-n-(j+1))by omega,W08 _ j 1,q09 (j:=j+1) (by omega),S02,n06,Nat.add_zero,b07,if_pos ⟨rfl,by omega⟩,Nat.pow_zero,Nat.mul_one,Nat.zero_add,Nat.pow_one,
  show j+1+n=j+(n+1)by omega,W08 u 0 j (n+1),W08 u' 0 j n,lo,Nat.zero_add,hi,hR,Nat.pow_succ]
 grind
theorem Z0q{l l':List Nat}{j k:Nat}(h:∀i,j<=i->i<j+k->l'.getD i 0=l.getD i 0):seg l' j k=seg l j k :=
 B0q λi hi=>h _ (by omega) (by omega)
