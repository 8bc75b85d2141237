/- Part. -/
import Derived.Test.YtfdaofhjkdabbaaGreatPartD
import Derived.Laws.StructEq
namespace Go.Proofs.YtfdaofhjkdabbaaGreat
open Go Go.Vc Go.Proofs
open Go.Proofs.Tryz (prog)
open Go.IntKind (i64 u64 u32 u8)
set_option maxHeartbeats 4000000 in
theorem o05 {V:View} {s t:Sl} {a b:Nat} (hs:x00 V s a) (ht:x00 V t b) (ha:wn a≤2^43) (hb0:b≠0) :
 a00 prog g09 #[s.v,t.v] V fun v V'=>∃q r:Sl,v = .tuple #[q.v,r.v]∧x00 V' q (a / b)∧x00 V' r (a%b):=by
 have hsl:=hs.len
 have htl:=ht.len
 obtain⟨sh,hsh⟩:∃sh,sh=32-bl ((dig b).getD (wn b-1) 0):=⟨_,rfl⟩
 obtain⟨hsh1,hwv,hlo⟩:=f0q hb0 hsh
 obtain⟨X,hX⟩:∃X,X=a*2^sh:=⟨_,rfl⟩
 obtain⟨vN,hvN⟩:∃v,v=b*2^sh:=⟨_,rfl⟩
 rw[←hvN]at hwv hlo
 obtain⟨m,hm⟩:∃m,m=s.len+1:=⟨_,rfl⟩
 obtain⟨n,hn⟩:∃n,n=t.len:=⟨_,rfl⟩
 have hna:wn a=s.len:=hsl.symm
 have hnb:wn b=n:=by rw[hn]; exact htl.symm
 have hal:=z0e a
 rw[hna]at ha hal
 rw[hnb]at hwv hlo
 have hcmp:=a0c hs ht (by omega)
 obtain⟨v1,hv1⟩:∃v1,v1=(dig vN).getD (n-1) 0:=⟨_,rfl⟩
 obtain⟨v2,hv2⟩:∃v2,v2=(dig vN).getD (n-2) 0:=⟨_,rfl⟩
 refine g0j s t V _
  (fun c x V'=>∃(v:Sl) (j:Nat) (u qd:List Nat),c=L01.mk (sh:Nat) v (n:Nat) (m-n) (m-n)∧x00 V' v vN∧x=S01.mk ((j:Int)-1) (wv u) (wv qd)∧DivI X vN n m j u qd)
  (fun _ x _=>(x.t13+1).toNat)
  (fun c x _=>∃(v:Sl) (j g:Nat) (u qd:List Nat),c=A01.mk (sh:Nat) v (n:Nat) (m-n) (m-n) (j:Nat) (wv u) (wv qd)∧x=T01.mk (g:Nat)∧g<4294967296∧seg u j (n+1) / vN≤g∧(g-1)*vN≤seg u j (n+1))
  (fun c x _=>∃(v:Sl) (j g r:Nat) (u qd:List Nat),c=w01.mk (sh:Nat) v (n:Nat) (m-n) (m-n) (j:Nat) (wv u) (wv qd)∧x=B01.mk (g:Nat) (r:Nat)∧r<4294967296∧g*v1+r=u.getD (j+n) 0*4294967296+u.getD (j+n-1) 0 ∧
    seg u j (n+1) / vN≤g)
  (fun _ x _=>x.t15.toNat)
  (fun c x _=>∃(v:Sl) (j g i cr bo:Nat) (u qd u0:List Nat),c=U01.mk (sh:Nat) v (n:Nat) (m-n) (m-n) (j:Nat) (g:Nat)∧x=d02.mk (bo:Nat) (cr:Nat) (i:Nat) (wv u) (wv qd)∧K0n X vN n m j g i cr bo u qd u0)
  (fun _ x _=>(n-x.t19).toNat)
  (fun c x _=>∃(v:Sl) (j g k cr:Nat) (u qd u0 l':List Nat),c=W01.mk (sh:Nat) v (n:Nat) (m-n) (m-n) (j:Nat) ((g-1:Nat):Int)∧x=e02.mk (cr:Nat) (k:Nat) (wv u) (wv qd)∧0<g∧K0l X vN n m j g k cr u qd u0 l')
  (fun _ x _=>(n-x.t23).toNat)
  (hcmp.mono fun v V1 l1 hv=>⟨_,hv,fun hlt => ?_,fun hge=>⟨fun h1 => ?_,fun h2 => ?_⟩⟩)
 ·
   have hlt:a<b:=by
    rcases Nat.lt_or_ge a b with h|h
    · exact h
    · exfalso; revert hlt; rw[if_neg (by omega)]; split<;>simp
   exact⟨_,_,rfl,by rw[Nat.div_eq_of_lt hlt]; exact x00.zero V1,by rw[Nat.mod_eq_of_lt hlt]; exact hs.le l1⟩
 ·
   have h1:n=1:=by have:(t.len:Int)=1:=(by simpa using h1); omega
   have hb1:b<4294967296:=by have:=z0e b; rw[hnb,h1]at this; simpa using this
   have hd:(dig b).getD 0 0=b:=by rw[m0h]; simp; omega
   have hg:=(ht.le l1).get (i:=0) (by omega) (by omega)
   simp only[Int.toNat_zero,hd]at hg
   refine⟨⟨by omega,by omega,ht.isSome (by omega)⟩,_,hg,?_⟩
   refine(o0a (hs.le l1) (by omega) (by omega) hb1).mono fun v V2 l2 ⟨q,hv,hq⟩=>⟨q,_,hv,?_⟩
   have hmod:a%b<b:=Nat.mod_lt _ (by omega)
   rw[u64w (by omega) (by omega)]
   refine(T09 (by omega) (by omega)).mono fun v V3 l3 ⟨r,hv,hr⟩=>⟨r,hv,q,r,rfl,hq.le l3,?_⟩
   rw[Int.toNat_natCast]at hr; exact hr
 have hab:b≤a:=by
  rcases Nat.lt_or_ge a b with h|h
  · exfalso; revert hge; rw[if_pos h]; simp
  · exact h
 have hnm:n≤s.len:=by rw[←hna,←hnb]; exact D0a hab
 have hn0:n≠0:=by rw[←hnb]; intro e; exact hb0 (L05.1 e)
 have hn2:2≤n:=by have:¬(t.len:Int)=1:=(by simpa using h2); omega
 have E2:i64.wrap ((s.len:Int)+1)=(m:Nat):=by rw[i64w (by omega) (by omega)]; omega
 have E3:i64.wrap ((m:Int)-(n:Int))=((m-n:Nat):Int):=by rw[i64w (by omega) (by omega)]; omega
 have E1:i64.wrap ((n:Int)-1)=((n-1:Nat):Int):=by rw[i64w (by omega) (by omega)]; omega
 have E4:i64.wrap ((n:Int)-2)=((n-2:Nat):Int):=by rw[i64w (by omega) (by omega)]; omega
 have E5:i64.wrap (((m-n:Nat):Int)-1)=((m-n:Nat):Int)-1:=by rw[i64w (by omega) (by omega)]
 have E6:(t.len:Int)=(n:Nat):=by omega
 have hblb:=O0w hb0
 have hbltop:bl ((dig b).getD (wn b-1) 0)≤32:=by
  have h3:=(C09 hb0).2.2
  have:=t0l h3
  have:=(y05 b).getD (wn b-1)
  have:=(Nat.pow_lt_pow_iff_right (a:=2) (n:=bl ((dig b).getD (wn b-1) 0)-1) (m:=32) (by omega)).1 (by omega)
  omega
 have Esh:i64.wrap (i64.wrap (32*(t.len:Int))-(bl b:Nat))=(sh:Nat):=by
  rw[i64w (n:=32*(t.len:Int)) (by omega) (by omega),i64w (by omega) (by omega)]; omega
 refine(k0g (ht.le l1) (by omega)).mono fun v V4 l4 hv=>⟨_,hv,?_⟩
 simp only[Esh]
 refine(c0c (ht.le (View.le_trans l1 l4)) (by omega) (by omega)).mono fun v V5 l5 ⟨w,hv,hw⟩=>⟨w,hv,?_⟩
 rw[←hvN]at hw
 have hwl:w.len=n:=by have:=hw.len; simp only[wn]at hwv; omega
 simp only[E2,Int.toNat_natCast,hwl,E3,E1,E4,E5]
 refine⟨⟨by omega,by omega,by omega,by omega⟩,(c0c (hs.le (View.le_trans l1 (View.le_trans l4 l5))) (by omega) (by omega)).mono fun v V6 l6 ⟨ua,hv,hua⟩=>⟨ua,hv,?_⟩⟩
 rw[←hX]at hua
 have hXm:wn X≤m:=by
  refine C05 ?_
  rw[hX,hm,Nat.pow_succ]
  exact Nat.mul_lt_mul'' hal (Nat.lt_of_le_of_lt (Nat.pow_le_pow_right (by omega) hsh1) (by omega))
 have hual:=hua.len
 simp only[wn]at hXm
 refine⟨wv (dig X),P01.has hua,by rw[H00]; omega,?_,?_,?_,⟨by omega,by omega,by omega,by omega⟩,?_⟩
 · by_cases h0:ua.len=0
   · left; have:(dig X).length=0:=by omega
     rw[List.eq_nil_of_length_eq_zero this]; rfl
   · right; exact hua.isSome (by omega)
 · intro v hv; simp only[wv,List.mem_map]at hv; obtain⟨d,_,rfl⟩:=hv; rfl
 · rw[g05,H00,H00]; simp; omega
 rw[g05,g05,Z0s m (dig X) (by omega)]
 have hq0:seg (dig X++List.replicate (m-(dig X).length) 0) 0 m=X:=by
  rw[f07 (by simp; omega),M0p,z01]
 have h7:=z0n hal hm hX hsh1 (by omega) (by omega) hlo _ hq0
 refine⟨⟨w,m-n,_,_,rfl,hw.le l6,rfl,by omega,?_,by simp; omega,WB.zeros _,by simp,?_,h7⟩,?_⟩
 · intro d hd
   rcases List.mem_append.1 hd with hd|hd
   · exact y05 X d hd
   · rw[(List.mem_replicate.1 hd).2]; omega
 · rw[show m-n+n=m by omega,hq0,Nat.sub_self,H05]; simp
 rintro _ V7 hle7 ⟨w',j,u,qd,hc,hw7,rfl,hD⟩
 obtain rfl:w'=w:=by simp only[L01.mk.injEq]at hc; exact hc.2.1.symm
 have hjl:=hD.jl
 have hlu:=hD.lu
 have hlq:=hD.lq
 have hwu:=hD.wu
 simp only[j0p]
 refine⟨fun hp => ?_,fun hp b1 V12 l12 hb1 b2 V13 l13 hb2 => ?_⟩
 · simp only[ge_iff_le,decide_eq_true_eq]at hp
   obtain⟨i,rfl⟩:∃i,j=i+1:=⟨j-1,by omega⟩
   have e0:(((i+1:Nat):Int)-1)=(i:Nat):=by omega
   simp only[e0]
   have F1:i64.wrap ((i:Int)+(n:Int))=((i+n:Nat):Int):=by rw[i64w (by omega) (by omega)]; omega
   have F2:i64.wrap (((i+n:Nat):Int)-1)=((i+n-1:Nat):Int):=by rw[i64w (by omega) (by omega)]; omega
   have F3:i64.wrap (((i+n:Nat):Int)-2)=((i+n-2:Nat):Int):=by rw[i64w (by omega) (by omega)]; omega
   have F4:i64.wrap ((i:Int)-1)=(i:Int)-1:=by rw[i64w (by omega) (by omega)]
   simp only[F1,F2,F3,F4,Int.toNat_natCast,Nat.zero_add,Nat.mul_one]
   have G:=u0l hwu hn2 hwv hD.lt
   rw[←hv1,←hv2]at G
   obtain⟨W,hW⟩:∃W,W=seg u i (n+1):=⟨_,rfl⟩
   obtain⟨u2,hu2⟩:∃x,x=u.getD (i+n) 0:=⟨_,rfl⟩
   obtain⟨u1,hu1⟩:∃x,x=u.getD (i+n-1) 0:=⟨_,rfl⟩
   obtain⟨u0,hu0⟩:∃x,x=u.getD (i+n-2) 0:=⟨_,rfl⟩
   rw[←hW,←hu2,←hu1,←hu0]at G
   have hu2l:u2<4294967296:=by rw[hu2]; exact hwu.getD _
   have hv1l:=G.h1
   have hv1p:=G.pos
   have hu1l:=G.k1
   have hv1b:2147483648≤v1:=by
    have hvn0:vN≠0:=by rintro rfl; rw[M09]at hwv; omega
    have h3:=(C09 hvn0).2.1
    rw[hwv,←hv1]at h3
    have h4:2147483648*4294967296^(n-1)<(v1+1)*4294967296^(n-1):=by omega
    have:=Nat.lt_of_mul_lt_mul_right h4
    omega
   have gv1:=(hw7).get (i:=((n-1:Nat):Int)) (by omega) (by omega)
   rw[Int.toNat_natCast,←hv1,Nat.mul_one]at gv1
   have gv2:=(hw7).get (i:=((n-2:Nat):Int)) (by omega) (by omega)
   rw[Int.toNat_natCast,←hv2,Nat.mul_one]at gv2
   have hws:=hw7.isSome (by omega)
   have hor:BitVec.toNat ((BitVec.ofInt u64.bits (u64.wrap ((u64.wrap (u2:Int))*4294967296))) ||| (BitVec.ofInt u64.bits (u64.wrap (u1:Int))))=u2*4294967296+u1:=by
    rw[u64w (n:=(u2:Int)) (by omega) (by omega),u64w (n:=(u1:Int)) (by omega) (by omega),u64w (by omega) (by omega),show(u2:Int)*4294967296=((u2*4294967296:Nat):Int)by omega]
    exact or64 hu1l hu2l
   refine⟨⟨by omega,by omega⟩,_,U07 (by omega),⟨by omega,by omega⟩,_,U07 (by omega),⟨by omega,by omega,hws⟩,_,gv1,?_,⟨by omega,by omega,hws⟩,_,gv1,?_,⟨?_,?_⟩,?_⟩
   · rw[u64w (by omega) (by omega)]; omega
   · rw[u64w (by omega) (by omega)]; omega
   ·
     rw[←hu2,←hu1,hor,u64w (n:=(v1:Int)) (by omega) (by omega),u64w (n:=((u2*4294967296+u1:Nat):Int)) (by omega) (by omega),←Int.ofNat_tdiv,←Int.ofNat_tmod]
     have h3:(u2*4294967296+u1) / v1≤u2*4294967296+u1:=Nat.div_le_self _ _
     have h4:(u2*4294967296+u1)%v1<v1:=Nat.mod_lt _ hv1p
     have h5:=Nat.div_add_mod' (u2*4294967296+u1) v1
     have h6:=G.init
     generalize (u2*4294967296+u1) / v1=g at *
     generalize (u2*4294967296+u1)%v1=r at *
     rw[u64w (n:=(g:Int)) (by omega) (by omega)]
     refine⟨w',i,g,r,u,qd,rfl,rfl,by omega,?_,?_⟩
     · rw[←hu2,←hu1]; exact h5
     · rw[←hW]; exact h6
   ·
     rintro _ V9 l9 ⟨w2,i2,g,r,u',qd',hc2,rfl,hr,hgr,hge⟩
     simp only[w01.mk.injEq]at hc2
     obtain⟨_,rfl,_,_,_,hi2,hu',hq'⟩:=hc2
     obtain rfl:i2=i:=by omega
     obtain rfl:=J0g hu'
     obtain rfl:=J0g hq'
     rw[←hu2,←hu1]at hgr
     rw[←hW]at hge
     have hgl:g<8589934592:=by
      rcases Nat.lt_or_ge g 8589934592 with h|h
      · exact h
      · exfalso
        have:=Nat.mul_le_mul h hv1b
        omega
     have gv1':=Q03 l9 gv1
     have gv2':=Q03 l9 gv2
     simp only
     have down:0<g→W / vN≤g-1→(4294967296≤r+v1→(g-1-1)*vN≤W∧g-1<4294967296) →
      ((decide (((u64.wrap ((r:Int)+(u64.wrap (v1:Int)))):Int)≥4294967296))=true →
        ∃(v:Sl) (j g':Nat) (u1 qd1:List Nat),A01.mk (sh:Nat) w' (n:Nat) (m-n) (m-n) (i2:Nat) (wv u) (wv qd)=A01.mk (sh:Nat) v (n:Nat) (m-n) (m-n) (j:Nat) (wv u1) (wv qd1)∧T01.mk (u64.wrap ((g:Int)-1))=T01.mk (g':Nat)∧g'<4294967296∧seg u1 j (n+1) / vN≤g'∧(g'-1)*vN≤seg u1 j (n+1)) ∧
      ((decide (((u64.wrap ((r:Int)+(u64.wrap (v1:Int)))):Int)≥4294967296))=false →
        (∃(v:Sl) (j g' r':Nat) (u1 qd1:List Nat),w01.mk (sh:Nat) w' (n:Nat) (m-n) (m-n) (i2:Nat) (wv u) (wv qd)=w01.mk (sh:Nat) v (n:Nat) (m-n) (m-n) (j:Nat) (wv u1) (wv qd1) ∧
          B01.mk (u64.wrap ((g:Int)-1)) (u64.wrap ((r:Int)+(u64.wrap (v1:Int))))=B01.mk (g':Nat) (r':Nat)∧r'<4294967296∧g'*v1+r'=u1.getD (j+n) 0*4294967296+u1.getD (j+n-1) 0∧seg u1 j (n+1) / vN≤g') ∧
        (u64.wrap ((g:Int)-1)).toNat<(g:Int).toNat):=by
      intro h0 h1 h2
      rw[u64w (n:=(v1:Int)) (by omega) (by omega),u64w (n:=(r:Int)+v1) (by omega) (by omega),u64w (n:=(g:Int)-1) (by omega) (by omega)]
      have e1:(g:Int)-1=((g-1:Nat):Int):=by omega
      have e2:(r:Int)+v1=((r+v1:Nat):Int):=by omega
      rw[e1,e2]
      refine⟨fun h => ?_,fun h => ?_⟩
      · simp only[ge_iff_le,decide_eq_true_eq]at h
        obtain⟨h3,h4⟩:=h2 (by omega)
        exact⟨w',i2,g-1,u,qd,rfl,rfl,h4,by rw[←hW]; exact h1,by rw[←hW]; exact h3⟩
      · simp only[ge_iff_le,decide_eq_false_iff_not]at h
        refine⟨⟨w',i2,g-1,r+v1,u,qd,rfl,rfl,by omega,?_,by rw[←hW]; exact h1⟩,by omega⟩
        rw[←hu2,←hu1,←hgr]
        obtain⟨k,rfl⟩:∃k,g=k+1:=⟨g-1,by omega⟩
        rw[Nat.succ_mul,Nat.add_sub_cancel]; omega
     refine⟨fun hp2=>⟨fun _ => ?_,fun h=>by cases h⟩,fun hp2 => ?_⟩
     · simp only[ge_iff_le,decide_eq_true_eq]at hp2
       have hq:=G.quo
       refine⟨⟨by omega,by omega,hws⟩,_,gv1',?_⟩
       exact down (by omega) (by omega) (fun h=>(G.brk hgr (by omega) h).symm)
     · simp only[ge_iff_le,decide_eq_false_iff_not]at hp2
       have hg32:g<4294967296:=by omega
       have hv2l:=G.h2
       have hm1:=p0f hg32 hv2l
       have hu0l:=G.k0
       refine⟨⟨by omega,by omega,hws⟩,_,gv2',⟨by omega,by omega⟩,_,U07 (by omega),?_⟩
       rw[←hu0]
       have hor2:BitVec.toNat ((BitVec.ofInt u64.bits (u64.wrap ((r:Int)*4294967296))) ||| (BitVec.ofInt u64.bits (u64.wrap (u0:Int))))=r*4294967296+u0:=by
        rw[u64w (n:=(u0:Int)) (by omega) (by omega),u64w (by omega) (by omega),show(r:Int)*4294967296=((r*4294967296:Nat):Int)by omega]
        exact or64 hu0l hr
       rw[hor2,u64w (n:=(v2:Int)) (by omega) (by omega),←Int.natCast_mul,u64w (n:=((g*v2:Nat):Int)) (by omega) (by omega),u64w (n:=((r*4294967296+u0:Nat):Int)) (by omega) (by omega)]
       refine⟨fun hp3 => ?_,fun hp3 => ?_⟩
       · simp only[gt_iff_lt,decide_eq_true_eq]at hp3
         have hd:=G.dec hgr (by omega)
         refine⟨⟨by omega,by omega,hws⟩,_,gv1',?_⟩
         have hg0:0<g:=Nat.lt_of_le_of_lt (Nat.zero_le _) hd
         exact down hg0 (Nat.le_sub_one_of_lt hd) (fun h=>(G.brk hgr hg0 h).symm)
       · simp only[gt_iff_lt,decide_eq_false_iff_not]at hp3
         exact⟨w',i2,g,u,qd,rfl,rfl,hg32,by rw[←hW]; exact hge,by rw[←hW]; exact G.exit hgr hg32 (by omega)⟩
   ·
     rintro _ V8 l8 ⟨w2,i2,g,u',qd',hc2,rfl,hg32,hge,hgl⟩
     simp only[A01.mk.injEq]at hc2
     obtain⟨_,rfl,_,_,_,hi2,hu',hq'⟩:=hc2
     obtain rfl:i2=i:=by omega
     obtain rfl:=J0g hu'
     obtain rfl:=J0g hq'
     refine⟨⟨w',i2,g,0,0,0,u,qd,u,rfl,rfl,hD,hn2,by omega,hwv,hg32,hge,hgl,by omega,hwu,hlu,by omega,by omega,fun _ _=>rfl,by simp[H05,wval]⟩,?_⟩
     clear G hge hgl gv1 gv2 hor hq0 h7 hXm hual hua hcmp hlo hX hvN hsh hblb hbltop Esh hv1 hv2 hu2 hu1 hu0 hW
     rintro _ V10 l10 ⟨w2,i9,g9,k,c0,b0,u9,qd9,u00,hc9,rfl,hT⟩
     simp only[U01.mk.injEq]at hc9
     obtain⟨_,rfl,_,_,_,hi9,hgg⟩:=hc9
     obtain rfl:i2=i9:=by omega
     obtain rfl:g=g9:=by omega
     have hjn:=hT.jn
     have hkn:=hT.i_le
     have hlu9:=hT.lu
     have hlq9:=hT.div.lq
     have hme:((i2:Int)-1+1).toNat<(((i2+1:Nat):Int)).toNat:=by omega
     simp only[F0t,Int.toNat_natCast]
     refine⟨fun hp2 => ?_,fun hp2 => ?_⟩
     · simp only[decide_eq_true_eq]at hp2
       have hkn:k<n:=by omega
       have K1:i64.wrap ((k:Int)+i2)=((i2+k:Nat):Int):=by rw[i64w (by omega) (by omega)]; omega
       simp only[K1,Int.toNat_natCast]
       have gk:=(hw7.le (View.le_trans l8 l10)).get (i:=(k:Nat)) (by omega) (by omega)
       simp only[Int.toNat_natCast,Nat.mul_one]at gk
       refine⟨⟨by omega,by omega,hws⟩,_,gk,⟨by omega,by omega⟩,_,U07 (by omega),⟨by omega,by omega⟩,by rw[H00]; omega,?_⟩
       obtain⟨low,br,c,e1,e2,e3,hT'⟩:=hT.step hkn
       rw[e1,e2,e3,j05,i64w (n:=(k:Int)+1) (by omega) (by omega)]
       exact⟨⟨w',i2,g,k+1,c,br,_,qd9,u00,rfl,rfl,hT'⟩,by omega⟩
     simp only[decide_eq_false_iff_not]at hp2
     obtain rfl:n=k:=by omega
     refine⟨⟨by omega,by omega⟩,_,U07 (by omega),⟨by omega,by omega⟩,by rw[H00]; omega,?_⟩
     obtain⟨low,br,e1,e2,hl',hb1,hb0⟩:=hT.last
     rw[e1,e2,j05]
     refine⟨fun hn1 => ?_,fun hn1 => ?_⟩
     ·
       obtain⟨hB,hg0⟩:=hb1 (by have:(br:Int)=1:=(by simpa using hn1); omega)
       rw[u64w (n:=(g:Int)-1) (by omega) (by omega),show(g:Int)-1=((g-1:Nat):Int)by omega]
       refine⟨⟨w',i2,g,0,0,_,qd9,u00,_,rfl,rfl,hg0,hB⟩,?_⟩
       clear hT hB hb1 hb0 hl' e1 e2
       rintro _ V11 l11 ⟨w3,i3,g3,k3,cr,u3,qd3,u03,l3,hc3,rfl,hg3,hB⟩
       simp only[W01.mk.injEq]at hc3
       obtain⟨_,rfl,_,_,_,hi3,hg3'⟩:=hc3
       obtain rfl:i2=i3:=by omega
       obtain rfl:g=g3:=by omega
       have hjn:=hB.jn
       have hkn:=hB.k_le
       have hlu3:=hB.lu
       have hlq3:=hB.div.lq
       simp only[Int.toNat_natCast]
       refine⟨fun hp4 => ?_,fun hp4 => ?_⟩
       · simp only[decide_eq_true_eq]at hp4
         have hkn:k3<n:=by omega
         have K1:i64.wrap ((k3:Int)+i2)=((i2+k3:Nat):Int):=by rw[i64w (by omega) (by omega)]; omega
         simp only[K1,Int.toNat_natCast]
         have gk:=(hw7.le (View.le_trans l8 (View.le_trans l10 l11))).get (i:=(k3:Nat)) (by omega) (by omega)
         simp only[Int.toNat_natCast,Nat.mul_one]at gk
         refine⟨⟨by omega,by omega⟩,_,U07 (by omega),⟨by omega,by omega,hws⟩,_,gk,⟨by omega,by omega⟩,by rw[H00]; omega,?_⟩
         obtain⟨low,c,e1,e2,hB'⟩:=hB.step hkn
         rw[e1,e2,j05,i64w (n:=(k3:Int)+1) (by omega) (by omega)]
         exact⟨⟨w',i2,g,k3+1,c,_,qd3,u03,l3,rfl,rfl,hg3,hB'⟩,by omega⟩
       · simp only[decide_eq_false_iff_not]at hp4
         obtain rfl:n=k3:=by omega
         refine⟨⟨by omega,by omega⟩,_,U07 (by omega),⟨by omega,by omega⟩,by rw[H00]; omega,⟨by omega,by omega⟩,by rw[H00]; omega,?_⟩
         obtain⟨low,e1,hD'⟩:=hB.last
         rw[u32w (n:=((g-1:Nat):Int)) (by omega) (by omega),e1,j05,j05]
         exact⟨⟨w',i2,_,_,rfl,hw7.le (View.le_trans l8 (View.le_trans l10 l11)),rfl,hD'⟩,hme⟩
     ·
       have hD':=hb0 (fun h=>by rw[h]at hn1; simp at hn1)
       rw[u32w (n:=(g:Int)) (by omega) (by omega),j05]
       exact⟨⟨by omega,by omega⟩,by rw[H00]; omega,⟨w',i2,_,_,rfl,hw7.le (View.le_trans l8 l10),rfl,hD'⟩,hme⟩
 ·
   simp only[ge_iff_le,decide_eq_false_iff_not]at hp
   obtain rfl:j=0:=by omega
   have heq:=hD.eq
   have hlt0:=hD.lt
   rw[Nat.zero_add,Nat.pow_zero,Nat.one_mul,Nat.sub_zero]at heq
   obtain⟨hq1,hr1⟩:=i0q hX hvN hb0 heq hlt0
   have hwq:P01 V12 (Sl.mk (some (Addr.mk b1 0 none)) (m-n) (m-n)) qd:=P01.of_block hb1 (by omega) (Nat.le_refl _) hD.wq
   have hwr:P01 V13 (Sl.mk (some (Addr.mk b2 0 none)) m m) u:=P01.of_block hb2 (by omega) (Nat.le_refl _) hwu
   refine⟨⟨by omega,by omega,by omega⟩,(l04 (P01.le l13 hwq) (by omega)).mono fun v V14 l14 ⟨q,hv,hq⟩=>⟨q,hv,?_⟩⟩
   have hwr2:P01 V14 (Sl.mk (some (Addr.mk b2 0 none)) n m) (u.take n):=P01.le l14 (P01.pre hwr (k:=n) (c:=m) (by omega) (by omega))
   have hl50:(u.take n).length≤2^50:=by rw[List.length_take]; omega
   have hz:Int.toNat 0=0:=rfl
   have hm0:¬m=0:=by omega
   have hadd:Option.map (fun q=>Addr.add q 0) (some (Addr.mk b2 0 none))=some (Addr.mk b2 0 none):=by simp[Addr.add]
   simp only[hz,hm0,if_false,Nat.zero_mul,hadd,Nat.sub_zero]
   have htr:=l04 hwr2 hl50
   refine htr.mono fun v V15 l15 ⟨r,hv,hr⟩=>⟨r,hv,?_⟩
   rw[←n0l]at hr
   have hrw:wn (seg u 0 n)≤2^44:=by
    have:=C05 (X0b hwu 0 n)
    omega
   refine(d0h hr hrw (by omega)).mono fun v V16 l16 ⟨r2,hv,hr2⟩=>⟨r2,hv,q,r2,rfl,?_,?_⟩
   · rw[←hq1,f07 (by omega)]; exact hq.le (View.le_trans l15 l16)
   · rw[←hr1]; exact hr2
theorem Y08 {V:View} {s t:Sl} {a b:Nat} (hs:x00 V s a) (ht:x00 V t b) (ha:wn a≤2^43) (hb:wn b≤2^43) :
 a00 prog K0k #[s.v,t.v] V fun v V'=>∃r:Sl,v=r.v∧x00 V' r (Nat.gcd a b):=by
 refine a0j s t V _ (fun _ x V'=>∃a' b',x00 V' x.t0 a'∧x00 V' x.t1 b'∧wn a'≤2^43∧wn b'≤2^43∧Nat.gcd a' b'=Nat.gcd a b) (fun _ x V'=>c0e V' x.t1) ⟨⟨a,b,hs,ht,ha,hb,rfl⟩,?_⟩
 rintro⟨x,y⟩ V1 l1 ⟨a',b',hx,hy,wa,wb,hg⟩
 simp only at hx hy ⊢
 have hyl:=hy.len
 refine⟨fun hp => ?_,fun hp => ?_⟩
 · simp only[gt_iff_lt,decide_eq_true_eq]at hp
   have hb0:b'≠0:=fun e=>by rw[←hy.len_zero]at e; omega
   refine(o05 hx hy wa hb0).mono fun v V2 l2 ⟨q,r,hv,hq,hr⟩=>⟨q,r,hv,?_⟩
   have hlt:a'%b'<b':=Nat.mod_lt _ (by omega)
   have hwr:wn (a'%b')≤wn b':=D0a (Nat.le_of_lt hlt)
   refine⟨⟨b',a'%b',hy.le l2,hr,wb,by omega,?_⟩,?_⟩
   · rw[Nat.gcd_comm,←Nat.gcd_rec,Nat.gcd_comm]; exact hg
   · rw[J08 hr,J08 hy]; exact hlt
 · simp only[gt_iff_lt,decide_eq_false_iff_not]at hp
   have hb0:b'=0:=hy.len_zero.1 (by omega)
   subst hb0
   rw[Nat.gcd_zero_right]at hg
   exact⟨x,rfl,by rw[←hg]; exact hx⟩
theorem L04 {V:View} {s:Sl} {n:Nat} (neg:Bool) (h:x00 V s n) :
 a00 prog u0b #[.bool neg,s.v] V fun v V'=>∃r:WhV,v=r.val∧y03 V' r (if neg=true then -(n:Int)else n):=by
 have hl:=h.len_zero
 refine b0j neg s V _ ⟨fun hn=>⟨_,rfl,?_,?_⟩,fun hn=>⟨_,rfl,?_,?_⟩⟩
 · rw[if_pos hn]; simp only[gt_iff_lt,decide_eq_decide]; omega
 · rw[if_pos hn]; simpa using h
 · rw[if_neg (by simp[hn])]; symm; simp only[decide_eq_false_iff_not]; omega
 · rw[if_neg (by simp[hn])]; simpa using h
theorem N07 {V:View} {n:Int} (h0 : -9223372036854775808≤n) (h1:n≤9223372036854775807) :
 a00 prog y0m #[.int .i64 n] V fun v V'=>∃r:WhV,v=r.val∧y03 V' r n:=by
 refine c0l n V _ ⟨fun hn => ?_,fun hn => ?_⟩
 · simp only[decide_eq_true_eq]at hn
   have e:u64.wrap (i64.wrap (0-n)) = -n:=by
    by_cases hm:n = -9223372036854775808
    · subst hm; decide
    · rw[i64w (by omega) (by omega),u64w (by omega) (by omega)]; omega
   rw[e]
   refine(T09 (by omega) (by omega)).mono fun v V1 _ ⟨r,hv,hr⟩=>⟨r,hv,_,rfl,by simp[hn],?_⟩
   have e2:n.natAbs=(-n).toNat:=by omega
   rw[e2]; exact hr
 · simp only[decide_eq_false_iff_not]at hn
   rw[u64w (by omega) (by omega)]
   refine(T09 (by omega) (by omega)).mono fun v V1 _ ⟨r,hv,hr⟩=>⟨r,hv,_,rfl,by simp[hn],?_⟩
   have e2:n.natAbs=n.toNat:=by omega
   rw[e2]; exact hr
theorem p05 {V:View} {x:WhV} {a:Int} (h:y03 V x a) :
 a00 prog J0k #[x.val] V fun v V'=>∃r:WhV,v=r.val∧y03 V' r (-a):=by
 refine c0j x V _ ((L04 (!x.neg) h.2).mono fun v V1 _ ⟨r,hv,hr⟩=>⟨r,hv,r,rfl,?_⟩)
 have e:(if(!x.neg)=true then -(a.natAbs:Int)else(a.natAbs:Int)) = -a:=by
  rw[h.1]; simp only[Bool.not_eq_true',decide_eq_false_iff_not]; split<;>omega
 rw[e]at hr; exact hr
theorem c07 {V:View} {x y:WhV} {a b:Int} (hx:y03 V x a) (hy:y03 V y b) (ha:wn a.natAbs≤2^43) (hb:wn b.natAbs≤2^43) :
 a00 prog C0k #[x.val,y.val] V fun v V'=>∃r:WhV,v=r.val∧y03 V' r (a+b):=by
 have h1:=hx.1
 have h2:=hy.1
 refine f0j x y V _ ⟨fun hs => ?_,fun hs => ?_⟩
 · refine(c0h hx.2 hy.2 (by omega) (by omega)).mono fun v V1 l1 ⟨r,hv,hr⟩=>⟨r,hv,?_⟩
   refine(L04 x.neg hr).mono fun v V2 _ ⟨w,hv,hw⟩=>⟨w,hv,w,rfl,?_⟩
   have e:(if x.neg=true then -((a.natAbs+b.natAbs:Nat):Int)else((a.natAbs+b.natAbs:Nat):Int))=a+b:=by
    rw[h1,h2]at hs; rw[h1]
    by_cases p:a<0<;>by_cases q:b<0<;>simp[p,q]at hs ⊢<;>omega
   rw[e]at hw; exact hw
 · refine(a0c hx.2 hy.2 (by omega)).mono fun v V1 l1 hv=>⟨_,hv,fun hc => ?_,fun hc => ?_⟩
   · have hc:b.natAbs≤a.natAbs:=by
       rcases Nat.lt_or_ge a.natAbs b.natAbs with h|h
       · rw[if_pos h]at hc; simp at hc
       · exact h
     refine(b0c (hx.2.le l1) (hy.2.le l1) (by omega) hc).mono fun v V2 l2 ⟨r,hv,hr⟩=>⟨r,hv,?_⟩
     refine(L04 x.neg hr).mono fun v V3 _ ⟨w,hv,hw⟩=>⟨w,hv,w,rfl,?_⟩
     have e:(if x.neg=true then -((a.natAbs-b.natAbs:Nat):Int)else((a.natAbs-b.natAbs:Nat):Int))=a+b:=by
      rw[h1,h2]at hs; rw[h1]
      by_cases p:a<0<;>by_cases q:b<0<;>simp[p,q]at hs ⊢<;>omega
     rw[e]at hw; exact hw
   · have hc:a.natAbs≤b.natAbs:=by
       rcases Nat.lt_or_ge b.natAbs a.natAbs with h|h
       · rw[if_neg (by omega),if_neg (by omega)]at hc; simp at hc
       · exact h
     refine(b0c (hy.2.le l1) (hx.2.le l1) (by omega) hc).mono fun v V2 l2 ⟨r,hv,hr⟩=>⟨r,hv,?_⟩
     refine(L04 y.neg hr).mono fun v V3 _ ⟨w,hv,hw⟩=>⟨w,hv,w,rfl,?_⟩
     have e:(if y.neg=true then -((b.natAbs-a.natAbs:Nat):Int)else((b.natAbs-a.natAbs:Nat):Int))=a+b:=by
      rw[h1,h2]at hs; rw[h2]
      by_cases p:a<0<;>by_cases q:b<0<;>simp[p,q]at hs ⊢<;>omega
     rw[e]at hw; exact hw
theorem e0h {V:View} {x y:WhV} {a b:Int} (hx:y03 V x a) (hy:y03 V y b) (ha:wn a.natAbs≤2^43) (hb:wn b.natAbs≤2^43) :
 a00 prog F0k #[x.val,y.val] V fun v V'=>∃r:WhV,v=r.val∧y03 V' r (a-b):=by
 refine d0j x y V _ ((p05 hy).mono fun v V1 l1 ⟨r,hv,hr⟩=>⟨r,hv,?_⟩)
 rw[Int.sub_eq_add_neg]
 exact(c07 (hx.le l1) hr ha (by rw[Int.natAbs_neg]; exact hb)).mono fun v V2 _ ⟨w,hv,hw⟩=>⟨w,hv,w,rfl,hw⟩
theorem K02 {V:View} {x y:WhV} {a b:Int} (hx:y03 V x a) (hy:y03 V y b) (ha:wn a.natAbs≤2^43) (hb:wn b.natAbs≤2^43) :
 a00 prog D0k #[x.val,y.val] V fun v V'=>∃r:WhV,v=r.val∧y03 V' r (a*b):=by
 refine e0j x y V _ ((b07 hx.2 hy.2 (by omega) (by omega)).mono fun v V1 l1 ⟨r,hv,hr⟩=>⟨r,hv,?_⟩)
 refine(L04 (!(x.neg==y.neg)) hr).mono fun v V2 _ ⟨w,hv,hw⟩=>⟨w,hv,w,rfl,?_⟩
 have e:(if(!(x.neg==y.neg))=true then -((a.natAbs*b.natAbs:Nat):Int)else((a.natAbs*b.natAbs:Nat):Int))=a*b:=by
  rw[j0q _ _ a b rfl rfl,hx.1,hy.1]
  by_cases p:a<0<;>by_cases q:b<0<;>simp[p,q]
 rw[e]at hw; exact hw
theorem x00.lit {V:View} {b n:Nat} (h:V b=some #[.int .u32 (n:Int)]) (h0:n≠0) (h1:n<4294967296):x00 V (Sl.mk (some (Addr.mk b 0 none)) 1 1) n:=by
 have e:dig n=[n]:=by
  have h2:n / 4294967296=0:=Nat.div_eq_of_lt h1
  rw[l06 h0,h2,P04,Nat.mod_eq_of_lt h1]
 unfold x00
 rw[e]
 exact P01.of_block (by rw[h]; rfl) rfl (Nat.le_refl _) (by intro d hd; simp at hd; omega)
theorem o0p:dig 1=[1]:=by rw[l06 (by omega)]; simp[P04]
theorem y03.ofNat {V:View} {s:Sl} {n:Nat} (h:x00 V s n):y03 V (WhV.mk false s) (n:Int):=⟨by simp,h⟩
theorem g06 {V:View} {x y:WhV} {s:Sl} {z:Cq} {a b:Int} {d:Nat} (hx:y03 V x a) (hy:y03 V y b) (hs:x00 V s d) (hz:Rep z a b d) (ha:wn a.natAbs≤2^43) (hb:wn b.natAbs≤2^43) (hd:wn d≤2^43) :
 a00 prog z0o #[x.val,y.val,s.v] V fun v V'=>∃r:NumV,v=r.val∧QAt V' r z:=by
 obtain⟨e1,e2,e3⟩:=hz.eqs
 have hp:=n0h a b hz.pos
 have d1:=K0c a b d
 have d2:=i0f a b d
 have d3:=e0i a b d
 refine U0m x y s V _ ((Y08 hx.2 hy.2 ha hb).mono fun v V1 l1 ⟨r1,hv,h1⟩=>⟨r1,hv,?_⟩)
 have hw1:wn (Nat.gcd a.natAbs b.natAbs)≤2^43:=by
  rcases Nat.eq_zero_or_pos a.natAbs with h|h
  · rw[h,Nat.gcd_zero_left]; exact hb
  · exact Nat.le_trans (D0a (Nat.le_of_dvd h (Nat.gcd_dvd_left _ _))) ha
 refine(Y08 h1 (hs.le l1) hw1 hd).mono fun v V2 l2 ⟨r2,hv,h2⟩=>⟨r2,hv,?_⟩
 have hg:Nat.gcd (Nat.gcd a.natAbs b.natAbs) d=gcd3 a b d:=rfl
 rw[hg]at h2
 have l02:=View.le_trans l1 l2
 have h2l:=h2.len
 have many:gcd3 a b d≠1→a00 prog g09 #[x.mag.v,r2.v] V2 fun v V8=>∃(r11:Sl) (r12:Sl),v = .tuple #[r11.v,r12.v] ∧
  a00 prog g09 #[y.mag.v,r2.v] V8 fun v V9=>∃(r13:Sl) (r14:Sl),v = .tuple #[r13.v,r14.v] ∧
  a00 prog g09 #[s.v,r2.v] V9 fun v V10=>∃(r15:Sl) (r16:Sl),v = .tuple #[r15.v,r16.v] ∧
  a00 prog u0b #[.bool x.neg,r11.v] V10 fun v V11=>∃r17:WhV,v=r17.val ∧
  a00 prog u0b #[.bool y.neg,r13.v] V11 fun v V12=>∃r18:WhV,v=r18.val∧∃r:NumV,(NumV.mk r17 r18 r15).val=r.val∧QAt V12 r z:=by
  intro _
  refine(o05 (hx.2.le l02) h2 ha (by omega)).mono fun v V4 l4 ⟨q1,m1,hv,hq1,_⟩=>⟨q1,m1,hv,?_⟩
  refine(o05 (hy.2.le (View.le_trans l02 l4)) (h2.le l4) hb (by omega)).mono fun v V5 l5 ⟨q2,m2,hv,hq2,_⟩=>⟨q2,m2,hv,?_⟩
  have l45:=View.le_trans l4 l5
  refine(o05 (hs.le (View.le_trans l02 l45)) (h2.le l45) hd (by omega)).mono fun v V6 l6 ⟨q3,m3,hv,hq3,_⟩=>⟨q3,m3,hv,?_⟩
  refine(L04 x.neg (hq1.le (View.le_trans l5 l6))).mono fun v V7 l7 ⟨w1,hv,hw1⟩=>⟨w1,hv,?_⟩
  refine(L04 y.neg (hq2.le (View.le_trans l6 l7))).mono fun v V8 l8 ⟨w2,hv,hw2⟩=>⟨w2,hv,_,rfl,?_,?_,?_⟩
  · rw[e1]
    have e:(if x.neg=true then -((a.natAbs / gcd3 a b d:Nat):Int)else((a.natAbs / gcd3 a b d:Nat):Int))=a / (gcd3 a b d:Nat):=by
     have k1:=F06 d1
     have k2:=O09 d1 hp
     rw[←k1,hx.1]
     have k3:(a / (gcd3 a b d:Nat)<0)↔a<0:=by simpa using k2
     simp only[decide_eq_true_eq]
     split<;>omega
    rw[e]at hw1; exact hw1.le l8
  · rw[e2]
    have e:(if y.neg=true then -((b.natAbs / gcd3 a b d:Nat):Int)else((b.natAbs / gcd3 a b d:Nat):Int))=b / (gcd3 a b d:Nat):=by
     have k1:=F06 d2
     have k2:=O09 d2 hp
     rw[←k1,hy.1]
     have k3:(b / (gcd3 a b d:Nat)<0)↔b<0:=by simpa using k2
     simp only[decide_eq_true_eq]
     split<;>omega
    rw[e]at hw2; exact hw2
  · rw[e3]; exact hq3.le (View.le_trans l7 l8)
 refine⟨fun hn => ?_,fun hn=>⟨fun h=>absurd h (by simp),fun _ => ?_⟩⟩
 · have hn:r2.len=1:=by have:(r2.len:Int)=1:=(by simpa using hn); omega
   refine⟨⟨by omega,by omega,h2.isSome (by omega)⟩,_,h2.get (by omega) (by omega),fun hw => ?_,fun hw => ?_⟩
   · have hw:(dig (gcd3 a b d)).getD 0 0=1:=by have:(((dig (gcd3 a b d)).getD 0 0:Nat):Int)=1:=of_decide_eq_true (by rw[←hw]; rfl); omega
     have hg1:gcd3 a b d=1:=by
      rw[hn]at h2l
      have h3:=z01 (gcd3 a b d)
      obtain⟨w,hw'⟩:∃w,dig (gcd3 a b d)=[w]:=List.length_eq_one_iff.1 h2l.symm
      rw[hw']at hw h3
      simp[wval]at hw h3
      omega
     rw[hg1]at e1 e2 e3
     simp only[Int.natCast_one,Int.ediv_one]at e1 e2
     rw[Nat.div_one]at e3
     exact⟨_,rfl,by rw[e1]; exact hx.le l02,by rw[e2]; exact hy.le l02,by rw[e3]; exact hs.le l02⟩
   · refine many fun h => ?_
     rw[h,o0p]at hw; simp at hw
 · refine many fun h => ?_
   rw[h,o0p]at h2l
   rw[h2l]at hn; simp at hn
theorem B04 {V:View} {n:Int} (h0 : -9223372036854775808≤n) (h1:n≤9223372036854775807) :
 a00 prog z0g #[.int .i64 n] V fun v V'=>∃r:NumV,v=r.val∧QAt V' r ⟨(n:Rat),0⟩:=by
 obtain⟨e1,e2,e3⟩:=j0d n
 refine d0l n V _ ((N07 h0 h1).mono fun v V1 _ ⟨r,hv,hr⟩=>⟨r,hv,fun b V2 l2 _ hb=>⟨_,rfl,by rw[e1]; exact hr.le l2,by rw[e2]; exact y03.zero _,by rw[e3]; exact x00.lit hb (by omega) (by omega)⟩⟩)
theorem A0f {V:View} {p q d:Int} (p0 : -9223372036854775808≤p) (p1:p≤9223372036854775807) (q0 : -9223372036854775808≤q) (q1:q≤9223372036854775807) (d0 : -9223372036854775808≤d) (d1:d≤9223372036854775807) (hd:d≠0) :
 a00 prog c0r #[.int .i64 p,.int .i64 q,.int .i64 d] V fun v V'=>∃r:NumV,v = .tuple #[r.val,.int .i64 0]∧QAt V' r ⟨(p:Rat) / (d:Rat),(q:Rat) / (d:Rat)⟩:=by
 refine Z0o p q d V _ ⟨fun h => ?_,fun _ => ?_⟩
 · exact absurd (by simpa using h) hd
 refine(N07 d0 d1).mono fun v V1 l1 ⟨c,hv,hc⟩=>⟨c,hv,?_⟩
 refine(N07 p0 p1).mono fun v V2 l2 ⟨a,hv,ha⟩=>⟨a,hv,?_⟩
 refine(N07 q0 q1).mono fun v V3 l3 ⟨b,hv,hb⟩=>⟨b,hv,fun hn => ?_,fun hn => ?_⟩
 · have hneg:d<0:=by have:=hc.1; rw[hn]at this; simpa using this.symm
   refine(p05 (ha.le l3)).mono fun v V4 l4 ⟨a',hv,ha'⟩=>⟨a',hv,?_⟩
   refine(p05 (hb.le l4)).mono fun v V5 l5 ⟨b',hv,hb'⟩=>⟨b',hv,?_⟩
   refine(g06 (ha'.le l5) hb' (hc.2.le (View.le_trans l2 (View.le_trans l3 (View.le_trans l4 l5)))) ?_ (wn64 (by omega)) (wn64 (by omega)) (wn64 (by omega))).mono fun v V6 l6 ⟨r,hv,hr⟩=>⟨r,hv,r,rfl,hr⟩
   have e:((d.natAbs:Nat):Rat) = -(d:Rat):=by
    have:(d.natAbs:Int) = -d:=by omega
    rw[←Rat.intCast_natCast,this]; push_cast; rfl
   refine⟨by omega,?_,?_⟩<;>(simp only[e]; push_cast; rw[Rat.div_def,Rat.div_def]; grind)
 · have hpos:¬d<0:=by have:=hc.1; rw[hn]at this; simpa using this.symm
   refine(g06 (ha.le l3) hb (hc.2.le (View.le_trans l2 l3)) ?_ (wn64 (by omega)) (wn64 (by omega)) (wn64 (by omega))).mono fun v V6 l6 ⟨r,hv,hr⟩=>⟨r,hv,r,rfl,hr⟩
   have e:((d.natAbs:Nat):Rat)=(d:Rat):=by
    have:(d.natAbs:Int)=d:=by omega
    rw[←Rat.intCast_natCast,this]
   refine⟨by omega,?_,?_⟩<;>simp only[e]
theorem z05 {V:View} {x y:NumV} {z w:Cq} (hx:QAt V x z) (hy:QAt V y w) (hz:z.sz≤2^40) (hw:w.sz≤2^40) :
 a00 prog U0q #[x.val,y.val] V fun v V'=>∃r:NumV,v=r.val∧QAt V' r (z+w):=by
 have zA:=Cq.wA hz; have zB:=Cq.wB hz; have zD:=Cq.wD hz
 have wA:=Cq.wA hw; have wB:=Cq.wB hw; have wD:=Cq.wD hw
 have zD':wn (z.D:Int).natAbs≤2^35:=zD
 have wD':wn (w.D:Int).natAbs≤2^35:=wD
 have s1:=A04 zA wD'; have s2:=A04 wA zD'; have s3:=A04 zB wD'; have s4:=A04 wB zD'
 have s5:=K0b s1 s2; have s6:=K0b s3 s4
 have s7:=N09 z.D w.D
 refine a0p x y V _ ((K02 hx.re (y03.ofNat hy.under) (by omega) (by omega)).mono fun v V1 l1 ⟨r1,hv,h1⟩=>⟨r1,hv,?_⟩)
 replace hx:=hx.le l1; replace hy:=hy.le l1
 refine(K02 hy.re (y03.ofNat hx.under) (by omega) (by omega)).mono fun v V2 l2 ⟨r2,hv,h2⟩=>⟨r2,hv,?_⟩
 replace hx:=hx.le l2; replace hy:=hy.le l2; replace h1:=h1.le l2
 refine(c07 h1 h2 (by omega) (by omega)).mono fun v V3 l3 ⟨r3,hv,h3⟩=>⟨r3,hv,?_⟩
 replace hx:=hx.le l3; replace hy:=hy.le l3
 refine(K02 hx.im (y03.ofNat hy.under) (by omega) (by omega)).mono fun v V4 l4 ⟨r4,hv,h4⟩=>⟨r4,hv,?_⟩
 replace hx:=hx.le l4; replace hy:=hy.le l4; replace h3:=h3.le l4
 refine(K02 hy.im (y03.ofNat hx.under) (by omega) (by omega)).mono fun v V5 l5 ⟨r5,hv,h5⟩=>⟨r5,hv,?_⟩
 replace hx:=hx.le l5; replace hy:=hy.le l5; replace h3:=h3.le l5; replace h4:=h4.le l5
 refine(c07 h4 h5 (by omega) (by omega)).mono fun v V6 l6 ⟨r6,hv,h6⟩=>⟨r6,hv,?_⟩
 replace hx:=hx.le l6; replace hy:=hy.le l6; replace h3:=h3.le l6
 refine(b07 hx.under hy.under (by omega) (by omega)).mono fun v V7 l7 ⟨r7,hv,h7⟩=>⟨r7,hv,?_⟩
 exact(g06 (h3.le l7) (h6.le l7) h7 (z.canon.rep.add w.canon.rep) (by omega) (by omega) (by omega)).mono fun v V10 _ ⟨r,hv,hr⟩=>⟨r,hv,r,rfl,hr⟩
theorem L0l {V:View} {x:NumV} {z:Cq} (hx:QAt V x z):a00 prog i0r #[x.val] V fun v V'=>∃r:NumV,v=r.val∧QAt V' r (-z):=by
 obtain⟨e1,e2,e3⟩:=z.neg_eqs
 refine c0p x V _ ((p05 hx.re).mono fun v V1 l1 ⟨r1,hv,h1⟩=>⟨r1,hv,?_⟩)
 exact(p05 (hx.im.le l1)).mono fun v V2 l2 ⟨r2,hv,h2⟩=>⟨r2,hv,_,rfl,by rw[e1]; exact h1.le l2,by rw[e2]; exact h2,by rw[e3]; exact hx.under.le (View.le_trans l1 l2)⟩
theorem g0e {V:View} {x:NumV} {z:Cq} (hx:QAt V x z):a00 prog E0o #[x.val] V fun v V'=>∃r:NumV,v=r.val∧QAt V' r z.conj:=by
 obtain⟨e1,e2,e3⟩:=z.conj_eqs
 exact W0m x V _ ((p05 hx.im).mono fun v V1 l1 ⟨r1,hv,h1⟩=>⟨r1,hv,_,rfl,by rw[e1]; exact hx.re.le l1,by rw[e2]; exact h1,by rw[e3]; exact hx.under.le l1⟩)
theorem B0f {V:View} {x y:NumV} {z w:Cq} (hx:QAt V x z) (hy:QAt V y w) (hz:z.sz≤2^40) (hw:w.sz≤2^40) :
 a00 prog e0r #[x.val,y.val] V fun v V'=>∃r:NumV,v=r.val∧QAt V' r (z-w):=by
 refine d0p x y V _ ((L0l hy).mono fun v V1 l1 ⟨r1,hv,h1⟩=>⟨r1,hv,?_⟩)
 rw[H0i]
 exact(z05 (hx.le l1) h1 hz (by rw[H0f]; exact hw)).mono fun v V2 _ ⟨r,hv,hr⟩=>⟨r,hv,r,rfl,hr⟩
theorem K03 {V:View} {x y:NumV} {z w:Cq} (hx:QAt V x z) (hy:QAt V y w) (hz:z.sz≤2^40) (hw:w.sz≤2^40) :
 a00 prog W0q #[x.val,y.val] V fun v V'=>∃r:NumV,v=r.val∧QAt V' r (z*w):=by
 have zA:=Cq.wA hz; have zB:=Cq.wB hz; have zD:=Cq.wD hz
 have wA:=Cq.wA hw; have wB:=Cq.wB hw; have wD:=Cq.wD hw
 have s1:=A04 zA wA; have s2:=A04 zB wB; have s2':=G0t s2; have s3:=A04 zA wB; have s4:=A04 zB wA
 have s5:=K0b s1 s2'; have s6:=K0b s3 s4
 rw[←Int.sub_eq_add_neg]at s5
 have s7:=N09 z.D w.D
 refine b0p x y V _ ((K02 hx.re hy.re (by omega) (by omega)).mono fun v V1 l1 ⟨r1,hv,h1⟩=>⟨r1,hv,?_⟩)
 replace hx:=hx.le l1; replace hy:=hy.le l1
 refine(K02 hx.im hy.im (by omega) (by omega)).mono fun v V2 l2 ⟨r2,hv,h2⟩=>⟨r2,hv,?_⟩
 replace hx:=hx.le l2; replace hy:=hy.le l2; replace h1:=h1.le l2
 refine(e0h h1 h2 (by omega) (by omega)).mono fun v V4 l4 ⟨r4,hv,h4⟩=>⟨r4,hv,?_⟩
 replace hx:=hx.le l4; replace hy:=hy.le l4
 refine(K02 hx.re hy.im (by omega) (by omega)).mono fun v V5 l5 ⟨r5,hv,h5⟩=>⟨r5,hv,?_⟩
 replace hx:=hx.le l5; replace hy:=hy.le l5; replace h4:=h4.le l5
 refine(K02 hx.im hy.re (by omega) (by omega)).mono fun v V6 l6 ⟨r6,hv,h6⟩=>⟨r6,hv,?_⟩
 replace hx:=hx.le l6; replace hy:=hy.le l6; replace h4:=h4.le l6; replace h5:=h5.le l6
 refine(c07 h5 h6 (by omega) (by omega)).mono fun v V7 l7 ⟨r7,hv,h7⟩=>⟨r7,hv,?_⟩
 replace hx:=hx.le l7; replace hy:=hy.le l7; replace h4:=h4.le l7
 refine(b07 hx.under hy.under (by omega) (by omega)).mono fun v V10 l10 ⟨r10,hv,h10⟩=>⟨r10,hv,?_⟩
 exact(g06 (h4.le l10) (h7.le l10) h10 (z.canon.rep.mul w.canon.rep) (by omega) (by omega) (by omega)).mono fun v V11 _ ⟨r,hv,hr⟩=>⟨r,hv,r,rfl,hr⟩
theorem e0d {V:View} {x:WhV} {a:Int} (h:y03 V x a):x.mag.len=0↔a=0:=by
 have:=h.2.len_zero
 rw[this]; omega
theorem I0a {V:View} {x:NumV} {z:Cq} (hx:QAt V x z):a00 prog x0o #[x.val] V fun v _=>v = .int .i64 (cmpR z.re 0):=by
 have h0:=e0d hx.re
 have h1:=hx.re.1
 have hD:=z.D_pos
 have hc:cmpR z.re 0=cmpZ z.A 0:=by
  have:=e0t (A:=z.A) (A':=0) (D:=z.D) (D':=1) hD (by omega)
  rw[←z.canon.rep.re]at this
  rw[show((0:Int):Rat) / ((1:Nat):Rat)=0 by rw[Rat.div_def]; simp]at this
  rw[←this]; simp
 refine X0m x V _ ⟨fun h => ?_,fun h=>⟨fun hp => ?_,fun hp => ?_⟩⟩
 · have:z.A<0:=by rw[h]at h1; simpa using h1.symm
   rw[hc,b0t this]
 · have hn:¬z.A<0:=by rw[h]at h1; simpa using h1.symm
   have:x.re.mag.len≠0:=by intro e; rw[e]at hp; simp at hp
   have:z.A≠0:=fun e=>this (h0.2 e)
   rw[hc,d0t (by omega)]
 · have:x.re.mag.len=0:=by have:¬(0:Int)<x.re.mag.len:=(by simpa using hp); omega
   rw[hc,c0t (h0.1 this)]
theorem Q0u (a b:Rat):(⟨a,0⟩:Cq)+⟨b,0⟩=⟨a+b,0⟩:=Cq.ext' (by rw[N01]) (by rw[O01]; grind)
theorem S0u (a b:Rat):(⟨a,0⟩:Cq) - ⟨b,0⟩=⟨a-b,0⟩:=Cq.ext' (by rw[n03]) (by rw[o03]; grind)
theorem T0u (a:Rat) : -(⟨a,0⟩:Cq)=⟨-a,0⟩:=Cq.ext' (by rw[e06]) (by rw[f06]; grind)
theorem N0g {V:View} {x:NumV} {z:Cq} (h:QAt V x z) (hz:z.sz≤2^40):a00 prog K0s #[x.val] V fun v V'=>∃r:NumV,v=r.val∧QAt V' r ⟨z.im,0⟩:=by
 have zA:=Cq.wA hz; have zB:=Cq.wB hz; have zD:=Cq.wD hz
 have hr:=z.canon.rep
 exact H0r x V _ ((g06 h.im (y03.zero V) h.under (z:=⟨z.im,0⟩) ⟨hr.pos,hr.im,by simp[Rat.div_def]⟩ (by omega) (by rw[Int.natAbs_zero,M09]; omega) (by omega)).mono fun v V' _ ⟨r,hv,hq⟩=>⟨r,hv,r,rfl,hq⟩)
theorem M0l {V:View} {x y:NumV} {a b:Rat} (hx:QAt V x ⟨a,0⟩) (hy:QAt V y ⟨b,0⟩) (hz:(⟨a,0⟩:Cq).sz≤2^38) (hw:(⟨b,0⟩:Cq).sz≤2^38) :
 a00 prog Y0q #[x.val,y.val] V fun v _=>v = .int .i64 (cmpR a b):=by
 have e0:cmpR (a-b) 0=cmpR a b:=by
  unfold cmpR
  by_cases h:a<b
  · rw[if_pos h,if_pos (by grind)]
  · rw[if_neg h,if_neg (by grind)]
    by_cases g:a=b
    · rw[if_pos g,if_pos (by grind)]
    · rw[if_neg g,if_neg (by grind)]
 have z0:cmpR (0:Rat) 0=0:=by unfold cmpR; rw[if_neg (by grind),if_pos rfl]
 have s:=C06 (⟨a,0⟩:Cq) (-(⟨b,0⟩:Cq))
 refine Y0o x y V _ ((B0f hx hy (by omega) (by omega)).mono fun v V1 l1 ⟨d,hv,hd⟩=>⟨d,hv,?_⟩)
 rw[S0u]at hd
 refine(I0a hd).mono fun v V2 l2 hv=>⟨_,hv,fun hc => ?_,fun hc => ?_⟩
 · show Value.int .i64 (cmpR (a-b) 0)=_; rw[e0]
 · have hc:cmpR (a-b) 0=0:=by simpa using hc
   have ds:(⟨a-b,0⟩:Cq).sz≤2^40:=by
    have e1:(⟨a-b,0⟩:Cq)=(⟨a,0⟩:Cq)+⟨-b,0⟩:=by rw[Q0u]; congr 1; grind
    have h1:=C06 (⟨a,0⟩:Cq) ⟨-b,0⟩
    have h2:(⟨-b,0⟩:Cq).sz=(⟨b,0⟩:Cq).sz:=by rw[←T0u,H0f]
    rw[e1]; omega
   refine(N0g (hd.le l2) ds).mono fun v V3 l3 ⟨r,hv,hr⟩=>⟨r,hv,(I0a hr).mono fun v V4 _ hv=>⟨_,hv,?_⟩⟩
   show Value.int .i64 (cmpR 0 0)=_
   rw[z0,←e0,hc]
theorem z0i {r:RatV} (h:ratI r):(ratQ r).sz≤64:=by
 obtain⟨⟨a,b⟩,⟨c,d⟩,e,f⟩:=h
 have key:Rep (ratQ r) (if r.den<0 then -r.re else r.re) (if r.den<0 then -r.im else r.im) (if r.den=0 then 1 else r.den.natAbs):=by
  unfold ratQ
  split
  · rename_i h0
    have:¬r.den<0:=by omega
    rw[if_neg this,if_neg this]
    refine⟨by omega,?_,?_⟩<;>simp only[]<;>rw[Rat.div_def]<;>simp<;>grind
  · by_cases hn:r.den<0
    · rw[if_pos hn,if_pos hn]
      have hd:(r.den:Rat)≠0:=by
       intro e0
       have:=Rat.intCast_inj.1 (e0.trans Rat.intCast_zero.symm)
       omega
      have e:((r.den.natAbs:Nat):Rat) = -(r.den:Rat):=by
       have e1:((r.den.natAbs:Nat):Rat)=(((r.den.natAbs:Nat):Int):Rat):=rfl
       have e2:((r.den.natAbs:Nat):Int) = -r.den:=by omega
       rw[e1,e2,Rat.intCast_neg]
      refine⟨by omega,?_,?_⟩<;>simp only[e,Rat.intCast_neg]<;>grind
    · rw[if_neg hn,if_neg hn]
      have e:((r.den.natAbs:Nat):Rat)=(r.den:Rat):=by
       have e2:((r.den.natAbs:Nat):Int)=r.den:=by omega
       conv=>rhs; rw[←e2]
       rfl
      exact⟨by omega,by simp only[e],by simp only[e]⟩
 refine key.sz ?_ ?_ ?_
 · exact g07 (by split<;>omega)
 · exact g07 (by split<;>omega)
 · exact g07 (by split<;>omega)
theorem N0b {V:View} {r:RatV} (h:ratI r):a00 prog E0s #[r.val] V fun v V'=>∃x:NumV,v=x.val∧QAt V' x (ratQ r):=by
 obtain⟨⟨a1,a2⟩,⟨b1,b2⟩,⟨c1,c2⟩⟩:=h
 refine I0r r V _ ⟨fun hd => ?_,fun hd => ?_⟩
 · have hd:r.den=0:=by simpa using hd
   refine(A0f a1 a2 b1 b2 (by omega) (by omega) (by omega)).mono fun v V1 _ ⟨x,hv,hx⟩=>⟨x,0,hv,x,rfl,?_⟩
   have e:ratQ r=⟨((r.re:Int):Rat) / ((1:Int):Rat),((r.im:Int):Rat) / ((1:Int):Rat)⟩:=by
    unfold ratQ; rw[if_pos hd]
    exact Cq.ext' (by simp only[]; grind) (by simp only[]; grind)
   rw[e]; exact hx
 · have hd:r.den≠0:=by simpa using hd
   refine(A0f a1 a2 b1 b2 c1 c2 hd).mono fun v V1 _ ⟨x,hv,hx⟩=>⟨x,0,hv,x,rfl,?_⟩
   have e:ratQ r=⟨((r.re:Int):Rat) / ((r.den:Int):Rat),((r.im:Int):Rat) / ((r.den:Int):Rat)⟩:=by
    unfold ratQ; rw[if_neg hd]
   rw[e]; exact hx
theorem i0e {V:View} {x:NumV} {z:Cq} (h:QAt V x z):a00 prog C0o #[x.val] V fun v _=>v = .bool (decide (z=Cq.zero)):=by
 have a:=h.re.2.len_zero; have b:=h.im.2.len_zero
 have zA:=J0t (z:=z); have zB:=B_zero (z:=z)
 have key:z=Cq.zero↔x.re.mag.len=0∧x.im.mag.len=0:=by
  rw[a,b,Int.natAbs_eq_zero,Int.natAbs_eq_zero,zA,zB]
  exact⟨fun e=>by rw[e]; exact⟨rfl,rfl⟩,fun⟨h1,h2⟩=>Cq.ext' h1 h2⟩
 refine S0m x V _ ⟨fun hc => ?_,fun hc => ?_⟩
 · have hc : x.re.mag.len = 0 := by have : (x.re.mag.len : Int) = 0 := by simpa using hc
                                    omega
   congr 1
   by_cases d:x.im.mag.len=0
   · rw[decide_eq_true (key.2 ⟨hc,d⟩),d]; rfl
   · rw[decide_eq_false (fun e=>d (key.1 e).2)]; simpa using d
 · have hc : ¬ x.re.mag.len = 0 := by have : ¬ (x.re.mag.len : Int) = 0 := by simpa using hc
                                      omega
   rw[decide_eq_false (fun e=>hc (key.1 e).1)]
theorem n0q (a:Int) (n:Nat):((a*(n:Int):Int):Rat)=(a:Rat)*(n:Rat):=by rw[Rat.intCast_mul]; rfl
theorem j0e {V:View} {x y:NumV} {z w:Cq} (hx:QAt V x z) (hy:QAt V y w) (hz:z.sz≤2^36) (hw:w.sz≤2^36) :
 a00 prog d0r #[x.val,y.val] V fun v V'=>∃(r:NumV) (e:Int),v = .tuple #[r.val,.int .i64 e]∧QAt V' r (z.div w)∧(w≠Cq.zero→e=0)∧(w=Cq.zero→e=3):=by
 have cz:=G0d w
 refine X0o x y V _ ((i0e hy).mono fun v V1 l1 hv=>⟨_,hv,fun hc => ?_,fun hc => ?_⟩)
 · have hc:w=Cq.zero:=by simpa using hc
   refine(B04 (by omega) (by omega)).mono fun v V2 _ ⟨r,hv,hr⟩=>⟨r,hv,_,_,rfl,?_,fun h=>absurd hc h,fun _=>rfl⟩
   have e:z.div w=⟨((0:Int):Rat),0⟩:=by
    rw[hc,Rat.intCast_zero]
    refine Cq.ext' ?_ ?_
    · show(z.re*0+z.im*0) / (0*0+0*0)=0
      have:z.re*0+z.im*0=(0:Rat):=by grind
      rw[this,Rat.div_def]; exact Rat.zero_mul _
    · show(z.im*0-z.re*0) / (0*0+0*0)=0
      have:z.im*0-z.re*0=(0:Rat):=by grind
      rw[this,Rat.div_def]; exact Rat.zero_mul _
   rw[e]; exact hr
 have hc:w≠Cq.zero:=by simpa using hc
 replace hx:=hx.le l1; replace hy:=hy.le l1
 have norm:a00 prog D0o #[y.val] V1 fun v V'=>∃r:NumV,v=r.val∧QAt V' r (w*w.conj) :=
  T0m y V1 _ ((g0e hy).mono fun v V2 l2 ⟨r,hv,hr⟩=>⟨r,hv,(K03 (hy.le l2) hr (by omega) (by omega)).mono fun v V3 _ ⟨q,hv,hq⟩=>⟨q,hv,q,rfl,hq⟩⟩)
 refine norm.mono fun v V3 l3 ⟨n,hv,hn⟩=>⟨n,hv,(g0e (hy.le l3)).mono fun v V4 l4 ⟨c,hv,hcj⟩=>⟨c,hv,?_⟩⟩
 refine(K03 (hx.le (View.le_trans l3 l4)) hcj (by omega) (by omega)).mono fun v V5 l5 ⟨t,hv,ht⟩=>⟨t,hv,?_⟩
 replace hn:=hn.le (View.le_trans l4 l5)
 have ns:=m01 w w.conj
 have ts:=m01 z w.conj
 have n40:(w*w.conj).sz≤2^40:=by omega
 have t40:(z*w.conj).sz≤2^40:=by omega
 have nA:=Cq.wA n40; have nD:=Cq.wD n40; have tA:=Cq.wA t40; have tB:=Cq.wB t40; have tD:=Cq.wD t40
 have hD:=(w*w.conj).D_pos
 refine(K02 ht.re (y03.ofNat hn.under) (by omega) (by rw[Int.natAbs_natCast]; omega)).mono fun v V6 l6 ⟨r6,hv,h6⟩=>⟨r6,hv,?_⟩
 refine(K02 (ht.im.le l6) (y03.ofNat (hn.under.le l6)) (by omega) (by rw[Int.natAbs_natCast]; omega)).mono fun v V7 l7 ⟨r7,hv,h7⟩=>⟨r7,hv,?_⟩
 have L:=View.le_trans l6 l7
 refine(b07 (ht.under.le L) (hn.re.2.le L) (by omega) (by omega)).mono fun v V8 l8 ⟨r8,hv,h8⟩=>⟨r8,hv,?_⟩
 have p1:=N09 (z*w.conj).D (w*w.conj).A.natAbs
 have q1:=A04 tA (b:=((w*w.conj).D:Int)) (by rw[Int.natAbs_natCast]; exact nD)
 have q2:=A04 tB (b:=((w*w.conj).D:Int)) (by rw[Int.natAbs_natCast]; exact nD)
 have nre:(w*w.conj).re=w.norm:=by show w.re*w.re-w.im * -w.im=w.re*w.re+w.im*w.im; grind
 have npos:0<w.norm:=by
  have h1:0≤w.re*w.re:=S0c _
  have h2:0≤w.im*w.im:=S0c _
  refine Rat.not_le.1 fun g=>hc ?_
  have g:w.re*w.re+w.im*w.im≤0:=g
  have e1:w.re*w.re=0:=by grind
  have e2:w.im*w.im=0:=by grind
  exact Cq.ext' (by rcases Rat.mul_eq_zero.1 e1 with h|h<;>exact h) (by rcases Rat.mul_eq_zero.1 e2 with h|h<;>exact h)
 have nrep:=(w*w.conj).canon.rep
 have hA:0<(w*w.conj).A:=by
  refine Int.not_le.1 fun g => ?_
  have e:=nrep.re
  rw[nre]at e
  have:((w*w.conj).A:Rat) / ((w*w.conj).D:Rat)≤0:=by
   rw[Rat.div_def]
   have dp : (0 : Rat) < ((w * w.conj).D : Rat) := by have : 0 < (w * w.conj).D := by omega
                                                      exact_mod_cast this
   have ip:(0:Rat)≤((w*w.conj).D:Rat)⁻¹:=Rat.le_of_lt (Rat.inv_pos.2 dp)
   have gq:((w*w.conj).A:Rat)≤0:=by exact_mod_cast g
   have:=Rat.mul_le_mul_of_nonneg_right gq ip
   rw[Rat.zero_mul]at this; exact this
  grind
 have R:Rep (z.div w) ((z*w.conj).A*((w*w.conj).D:Int)) ((z*w.conj).B*((w*w.conj).D:Int)) ((z*w.conj).D*(w*w.conj).A.natAbs):=by
  have trep:=(z*w.conj).canon.rep
  have tre:(z*w.conj).re=z.re*w.re+z.im*w.im:=by show z.re*w.re-z.im * -w.im=_; grind
  have tim:(z*w.conj).im=z.im*w.re-z.re*w.im:=by show z.re * -w.im+z.im*w.re=_; grind
  have e1:=trep.re; have e2:=trep.im; have e3:=nrep.re
  rw[tre]at e1; rw[tim]at e2; rw[nre]at e3
  have dn:((z*w.conj).D:Rat)≠0:=X04 (z*w.conj).D_pos
  have dm:((w*w.conj).D:Rat)≠0:=X04 hD
  have an:(((w*w.conj).A.natAbs:Nat):Rat)=((w*w.conj).A:Rat):=by
   have:(((w*w.conj).A.natAbs:Nat):Int)=(w*w.conj).A:=by omega
   exact congrArg (fun x:Int=>(x:Rat)) this
  have am:((w*w.conj).A:Rat)≠0:=by
   intro g
   have:(w*w.conj).A=0:=by exact_mod_cast g
   omega
  refine⟨?_,?_,?_⟩
  · exact Nat.pos_iff_ne_zero.1 (Nat.mul_pos (by have:=(z*w.conj).D_pos; omega) (by omega))
  · show(z.re*w.re+z.im*w.im) / w.norm=_
    rw[e1,e3,n0q (z*w.conj).A,Rat.natCast_mul,an]; grind
  · show(z.im*w.re-z.re*w.im) / w.norm=_
    rw[e2,e3,n0q (z*w.conj).B,Rat.natCast_mul,an]; grind
 refine(g06 (h6.le (View.le_trans l7 l8)) (h7.le l8) h8 R (by omega) (by omega) (by omega)).mono fun v V9 _ ⟨r,hv,hr⟩=>⟨r,hv,_,_,rfl,hr,fun _=>rfl,fun h=>absurd h hc⟩
theorem L0n {q:Rat}:cmpR q 0=0↔q=0:=by
 unfold cmpR
 by_cases c:q<0
 · rw[if_pos c]; exact⟨fun h=>absurd h (by decide),fun h=>by grind⟩
 · rw[if_neg c]
   by_cases d:q=0
   · rw[if_pos d]; exact⟨fun _=>d,fun _=>rfl⟩
   · rw[if_neg d]; exact⟨fun h=>absurd h (by decide),fun h=>absurd h d⟩
theorem f0d {V:View} {x:NumV} {z:Cq} (h:QAt V x z) (hz:z.sz≤2^40):a00 prog K0d #[x.val] V fun v _=>v = .bool (decide (z.im=0)):=by
 have side:a00 prog B0o #[x.val] V fun v _=>v = .int .i64 (cmpR z.im 0) :=
  Z0m x V _ ((N0g h hz).mono fun v V1 _ ⟨r,hv,hr⟩=>⟨r,hv,(I0a hr).mono fun v V2 _ hv=>⟨_,hv,rfl⟩⟩)
 refine G0c x V _ (side.mono fun v V1 _ hv=>⟨_,hv,?_⟩)
 congr 1
 by_cases c:z.im=0
 · rw[decide_eq_true c,L0n.2 c]; rfl
 · rw[decide_eq_false c]
   have:cmpR z.im 0≠0:=fun h=>c (L0n.1 h)
   simpa using this
theorem y09 {V:View} {s:I00} {p:P3} {S:Nat} (h:X09 V s p) (sp:p.szle S) (hS:S≤2^40):a00 prog B0c #[s.val] V fun v _=>v = .bool p.real:=by
 obtain⟨s1,s2,s3⟩:=sp
 unfold P3.real
 refine k0c s V _ ((f0d h.x (by omega)).mono fun v V1 l1 hv=>⟨_,hv,fun h1 => ?_,fun h1=>by rw[h1]; rfl⟩)
 rw[h1]
 refine(f0d (h.y.le l1) (by omega)).mono fun v V2 l2 hv=>⟨_,hv,fun h2 => ?_,fun h2=>by rw[h2]; rfl⟩
 rw[h2]
 exact(f0d (h.z.le (View.le_trans l1 l2)) (by omega)).mono fun v V3 l3 hv=>⟨_,hv,by simp⟩
theorem O0b {V:View} {s:o01} {f:F3} {S:Nat} (h:d0e V s f) (sf:f.szle S) (hS:S≤2^40):a00 prog Y07 #[s.val] V fun v _=>v = .bool f.real:=by
 unfold F3.real
 refine O07 s V _ ((y09 h.o sf.o hS).mono fun v V1 l1 hv=>⟨_,hv,fun h1 => ?_,fun h1=>by rw[h1]; rfl⟩)
 rw[h1]
 refine(y09 (h.u.le l1) sf.u hS).mono fun v V2 l2 hv=>⟨_,hv,fun h2 => ?_,fun h2=>by rw[h2]; rfl⟩
 rw[h2]
 exact(y09 (h.v.le (View.le_trans l1 l2)) sf.v hS).mono fun v V3 l3 hv=>⟨_,hv,by simp⟩
theorem G0e {V:View} {a b:I00} {n:NumV} {p q:P3} {f:Cq} {S T F:Nat} (hp:X09 V a p) (hq:X09 V b q) (hf:QAt V n f) (sp:p.szle S) (sq:q.szle T) (sf:f.sz≤F) (hS:S+T+F≤2^38) :
 a00 prog I09 #[a.val,b.val,n.val] V fun v V'=>∃r:I00,v=r.val∧X09 V' r (O0c p f q):=by
 obtain⟨s1,s2,s3⟩:=sp
 obtain⟨t1,t2,t3⟩:=sq
 have a1:=m01 f q.x; have a2:=m01 f q.y; have a3:=m01 f q.z
 refine L0d a b n V _ ((K03 hf hq.x (by omega) (by omega)).mono fun v V1 l1 ⟨r1,hv,h1⟩=>⟨r1,hv,?_⟩)
 refine(z05 (hp.x.le l1) h1 (by omega) (by omega)).mono fun v V2 l2 ⟨r2,hv,h2⟩=>⟨r2,hv,?_⟩
 have L2:=View.le_trans l1 l2
 refine(K03 (hf.le L2) (hq.y.le L2) (by omega) (by omega)).mono fun v V3 l3 ⟨r3,hv,h3⟩=>⟨r3,hv,?_⟩
 refine(z05 (hp.y.le (View.le_trans L2 l3)) h3 (by omega) (by omega)).mono fun v V4 l4 ⟨r4,hv,h4⟩=>⟨r4,hv,?_⟩
 have L4:=View.le_trans L2 (View.le_trans l3 l4)
 refine(K03 (hf.le L4) (hq.z.le L4) (by omega) (by omega)).mono fun v V5 l5 ⟨r5,hv,h5⟩=>⟨r5,hv,?_⟩
 refine(z05 (hp.z.le (View.le_trans L4 l5)) h5 (by omega) (by omega)).mono fun v V6 l6 ⟨r6,hv,h6⟩=>⟨r6,hv,⟨r2,r4,r6⟩,rfl,?_,?_,h6⟩
 · exact h2.le (View.le_trans l3 (View.le_trans l4 (View.le_trans l5 l6)))
 · exact h4.le (View.le_trans l5 l6)
theorem p0p {V:View} {a b:I00} {p q:P3} {S T:Nat} (hp:X09 V a p) (hq:X09 V b q) (sp:p.szle S) (sq:q.szle T) (hS:S+T≤2^37) :
 a00 prog t0e #[a.val,b.val] V fun v V'=>∃r:NumV,v=r.val∧QAt V' r (dotP p q):=by
 obtain⟨s1,s2,s3⟩:=sp
 obtain⟨t1,t2,t3⟩:=sq
 have a1:=m01 p.x q.x; have a2:=m01 p.y q.y; have a3:=m01 p.z q.z
 have b1:=C06 (p.x*q.x) (p.y*q.y)
 refine M0d a b V _ ((K03 hp.x hq.x (by omega) (by omega)).mono fun v V1 l1 ⟨r1,hv,h1⟩=>⟨r1,hv,?_⟩)
 refine(K03 (hp.y.le l1) (hq.y.le l1) (by omega) (by omega)).mono fun v V2 l2 ⟨r2,hv,h2⟩=>⟨r2,hv,?_⟩
 refine(z05 (h1.le l2) h2 (by omega) (by omega)).mono fun v V3 l3 ⟨r3,hv,h3⟩=>⟨r3,hv,?_⟩
 have L:=View.le_trans l1 (View.le_trans l2 l3)
 refine(K03 (hp.z.le L) (hq.z.le L) (by omega) (by omega)).mono fun v V4 l4 ⟨r4,hv,h4⟩=>⟨r4,hv,?_⟩
 exact(z05 (h3.le l4) h4 (by omega) (by omega)).mono fun v V5 l5 ⟨r5,hv,h5⟩=>⟨r5,hv,r5,rfl,h5⟩
theorem N0l {V:View} {a b:I00} {p q:P3} {S T:Nat} (hp:X09 V a p) (hq:X09 V b q) (sp:p.szle S) (sq:q.szle T) (hS:S+T≤2^37) {n:NumV} (hn:QAt V n ⟨((-1:Int):Rat),0⟩) :
 a00 prog I09 #[a.val,b.val,n.val] V fun v V'=>∃r:I00,v=r.val∧X09 V' r (z0l p q) :=
 G0e (f:=j0n) hp hq hn sp sq k0i (by omega)
theorem f0h {V:View} {a b:I00} {p q:P3} {S T:Nat} (hp:X09 V a p) (hq:X09 V b q) (sp:p.szle S) (sq:q.szle T) (hS:S+T≤2^35) :
 a00 prog T0a #[a.val,b.val] V fun v V'=>∃r:NumV,v=r.val∧QAt V' r (dotP (z0l p q) (z0l p q)):=by
 have sl:=A0l sp sq
 refine z0a a b V _ ((B04 (by omega) (by omega)).mono fun v V1 l1 ⟨r1,hv,h1⟩=>⟨r1,hv,?_⟩)
 refine(N0l (hp.le l1) (hq.le l1) sp sq (by omega) h1).mono fun v V2 l2 ⟨r2,hv,h2⟩=>⟨r2,hv,?_⟩
 exact(p0p h2 h2 sl sl (by omega)).mono fun v V3 l3 ⟨r3,hv,h3⟩=>⟨r3,hv,r3,rfl,h3⟩
theorem O0l {V:View} {s:o01} {a b:NumV} {f:F3} {i j:Cq} {S T:Nat} (h:d0e V s f) (hi:QAt V a i) (hj:QAt V b j) (sf:f.szle S) (si:i.sz≤T) (sj:j.sz≤T) (hS:3*S+2*T≤2^37) :
 a00 prog A0c #[s.val,a.val,b.val] V fun v V'=>∃r:I00,v=r.val∧X09 V' r (g0k f i j):=by
 refine l0c s a b V _ ((G0e h.o h.u hi sf.o sf.u si (by omega)).mono fun v V1 l1 ⟨r1,hv,h1⟩=>⟨r1,hv,?_⟩)
 exact(G0e h1 (h.v.le l1) (hj.le l1) (P0c sf.o sf.u si) sf.v sj (by omega)).mono fun v V2 l2 ⟨r2,hv,h2⟩=>⟨r2,hv,r2,rfl,h2⟩
theorem X0t {V:View} {a b c:NumV} {x y z:Cq} {S:Nat} (ha:c01 V a x) (hb:c01 V b y) (hc:c01 V c z) (sx:x.sz≤S) (sy:y.sz≤S) (sz:z.sz≤S) (hS:S≤2^30) :
 a00 prog G0o #[a.val,b.val,c.val] V fun v V'=>∃r:NumV,v=r.val∧c01 V' r (p0n x y z):=by
 have s1:=O08 x y; have s2:=O08 z y
 refine a0n a b c V _ ((N08 ha hb (by omega) (by omega)).mono fun v V1 l1 ⟨r1,hv,h1⟩=>⟨r1,hv,?_⟩)
 refine(N08 (hc.le l1) (hb.le l1) (by omega) (by omega)).mono fun v V2 l2 ⟨r2,hv,h2⟩=>⟨r2,hv,?_⟩
 refine(M0g (h1.le l2) h2 (by omega) (by omega)).mono fun v V3 l3 ⟨r3,e,hv,hz,hn⟩=>⟨r3,e,hv,r3,rfl,?_⟩
 by_cases g:z-y=Cq.zero
 · have e1:p0n x y z=Cq.zero:=by
     unfold p0n; rw[g]
     refine Cq.ext' ?_ ?_<;>simp only[Cq.div,Cq.norm,Cq.zero,Rat.mul_zero,Rat.add_zero,Rat.div_def,Rat.inv_zero]
   rw[e1]; exact(hz g).2
 · exact(hn g).2
theorem M0n {V:View} {a b c:NumV} {x y z:Cq} {S:Nat} (ha:c01 V a x) (hb:c01 V b y) (hc:c01 V c z) (sx:x.sz≤S) (sy:y.sz≤S) (sz:z.sz≤S) (hS:S≤2^34) :
 a00 prog T0i #[a.val,b.val,c.val] V fun v V'=>∃r:NumV,v=r.val∧c01 V' r (B0l x y z):=by
 have s1:=O08 y x; have s2:=m01 z (y-x)
 refine Z0h a b c V _ ((N08 hb ha (by omega) (by omega)).mono fun v V1 l1 ⟨r1,hv,h1⟩=>⟨r1,hv,?_⟩)
 refine(W04 (hc.le l1) h1 (by omega) (by omega)).mono fun v V2 l2 ⟨r2,hv,h2⟩=>⟨r2,hv,?_⟩
 exact(z06 (ha.le (View.le_trans l1 l2)) h2 (by omega) (by omega)).mono fun v V3 l3 ⟨r3,hv,h3⟩=>⟨r3,hv,r3,rfl,h3⟩
theorem P0l {V:View} {s:Sl} {l:List Tk} (h:F0a V s l) {p:Option Addr} (hp:V.load p=some s.v) {t:Nat} {k:Tk} (hk:l[t]?=some k) :
 a00 prog S0b #[.int .i64 (t:Int),.pointer p] V fun v V'=>∃r:NumV,v = .tuple #[r.val,.bool (decide (k.place.im=0))]∧c01 V' r k.time:=by
 obtain⟨g,y,hy,_,hs,⟨h1,g1⟩,h2,g2⟩:=o0f h (t:=(t:Int)) (by omega) (k:=k) (by rw[Int.toNat_natCast]; exact hk)
 refine W0f (t:Int) p V _ ⟨s,hp,g,hs,y.time,h1,g1,s,hp,g,hs,y.place,h2,g2,?_⟩
 exact(Y05 hy.place).mono fun v V1 l1 hv=>⟨_,hv,_,rfl,hy.time.le l1⟩
theorem u0j {V:View} {s:Sl} {l:List Tk} (h:F0a V s l) {S:Nat} (hz:∀k∈l,k.szle S) (hS:S≤2^30) {p:Option Addr} (hp:V.load p=some s.v) :
 a00 prog U0g #[.int .i64 (s.len:Int),(Fn1.mk p).val S0b] V fun v _=>∃r:Int,v = .int .i64 r∧r=e0g l:=by
 have hl:s.len=l.length:=h.len
 refine B07 (s.len:Int) ⟨p⟩ V _ (fun _ _ _=>1≤l.length∧l.length≤4096)
  (fun _ x V'=>∃t:Nat,x.t16=t∧t≤l.length∧(∀k,Z0g l t=some k→c01 V' x.o5 k.time∧k.time.im=0)∧ascF none l=ascF ((Z0g l t).map fun k=>k.time.re) (l.drop t)) (fun _ x _=>l.length-x.t16.toNat) ?_
 rw[hl]
 refine⟨⟨fun h0=>⟨_,rfl,?_⟩,fun h0=>⟨fun h1=>⟨_,rfl,?_⟩,fun h1 => ?_⟩⟩,?_⟩
 · unfold e0g; rw[if_pos (.inl (by simpa using h0))]
 · unfold e0g; rw[if_pos (.inr (by simp at h1; omega))]
 · have h0:l.length≠0:=by simpa using h0
   exact⟨by omega,by simp at h1; omega⟩
 rintro⟨u⟩ V1 l1 ⟨hn1,hn2⟩
 refine⟨⟨0,rfl,by omega,fun k hk=>by simp[Z0g]at hk,rfl⟩,?_⟩
 rw[u0t hn1 hn2]
 rintro⟨t16,o5⟩ V2 l2 ⟨t,et,ht,ho,hE⟩
 dsimp only at et ho ⊢
 subst et
 have L2:=View.le_trans l1 l2
 refine⟨fun hlt => ?_,fun hge=>⟨_,rfl,?_⟩⟩
 · have hk:t<l.length:=by simp at hlt; omega
   have ek:l[t]?=some l[t]:=List.getElem?_eq_getElem hk
   have hmem:l[t]∈l:=List.getElem_mem hk
   obtain⟨zt,zp⟩:=hz _ hmem
   rw[g0p ek]at hE
   generalize hkk:l[t]=k at *
   refine(P0l (h.le L2) (Q03 L2 hp) ek).mono fun v V3 l3 ⟨r1,hv,h1⟩=>⟨r1,_,hv,fun c=>⟨_,rfl,?_⟩,fun c => ?_⟩
   · have c:¬k.place.im=0:=by simpa using c
     rw[hE]; unfold ascF; rw[if_pos (by unfold Tk.real; simp[c])]
   have c:k.place.im=0:=by simpa using c
   refine(Y05 h1).mono fun v V4 l4 hv=>⟨_,hv,fun d=>⟨_,rfl,?_⟩,fun d => ?_⟩
   · have d:¬k.time.im=0:=by simpa using d
     rw[hE]; unfold ascF; rw[if_pos (by unfold Tk.real; simp[d])]
   have d:k.time.im=0:=by simpa using d
   have hr:¬k.real=false:=by unfold Tk.real; simp[c,d]
   have step:∀V',View.le V4 V'→(∀q,Z0g l t=some q→¬k.time.re≤q.time.re)→(∃t':Nat,i64.wrap ((t:Int)+1)=t'∧t'≤l.length∧(∀k,Z0g l t'=some k→c01 V' r1 k.time∧k.time.im=0)∧ascF none l=ascF ((Z0g l t').map fun k=>k.time.re) (l.drop t'))∧l.length-(i64.wrap ((t:Int)+1)).toNat<l.length-(t:Int).toNat:=by
    intro V' l' hq
    rw[i64w (by omega) (by omega)]
    refine⟨⟨t+1,by omega,by omega,?_,?_⟩,by omega⟩
    · intro k' hk'
      rw[j0k,ek]at hk'
      obtain rfl:=Option.some.inj hk'
      exact⟨h1.le (View.le_trans l4 l'),d⟩
    · rw[hE,j0k,ek]
      conv=>lhs; unfold ascF
      rw[if_neg hr]
      cases hpa:Z0g l t with
      | none=>rfl
      | some q =>
        simp only[Option.map_some]
        rw[if_neg (hq q hpa)]
   refine⟨fun c0 => ?_,fun c0=>step V4 (View.le_refl _) fun q hq => ?_⟩
   · have hpos:0<t:=by simp at c0; omega
     have ep:l[t-1]?=some l[t-1]:=List.getElem?_eq_getElem (by omega)
     have hpa:Z0g l t=some l[t-1]:=by unfold Z0g; rw[if_neg (by omega),ep]
     obtain⟨ho1,ho2⟩:=ho _ hpa
     have zq:=(hz _ (List.getElem_mem (show t-1<l.length by omega))).1
     generalize l[t-1]=q at *
     refine(n0a (h1.le l4) (ho1.le (View.le_trans l3 l4)) (by omega) (by omega)).mono fun v V5 l5 hv=>⟨_,hv,fun e=>⟨_,rfl,?_⟩,fun e=>step V5 l5 fun q' hq' => ?_⟩
     · rw[t0h d ho2]at e
       have e:k.time.re≤q.time.re:=by
        rcases u0h k.time.re q.time.re with⟨g,_⟩|⟨g,_⟩|⟨_,g⟩
        · grind
        · grind
        · rw[g]at e; simp at e
       rw[hE,hpa]
       conv=>rhs; unfold ascF
       rw[if_neg hr]
       simp only[Option.map_some]
       rw[if_pos e]
     · rw[hpa]at hq'
       obtain rfl:=Option.some.inj hq'
       rw[t0h d ho2]at e
       rcases u0h k.time.re q.time.re with⟨_,g⟩|⟨_,g⟩|⟨g,_⟩
       · rw[g]at e; simp at e
       · rw[g]at e; simp at e
       · grind
   · have:t=0:=by simp at c0; omega
     subst this
     simp[Z0g]at hq
 · have e:t=l.length:=by simp at hge; omega
   subst e
   rw[hE,List.drop_length]; rfl
theorem N0n {V:View} {s:Sl} {l:List Tk} (h:F0a V s l) {S:Nat} (hz:∀k∈l,k.szle S) (hS:S≤2^30) :
 a00 prog S0i #[s.v] V fun v _=>∃r:Int,v = .int .i64 r∧r=e0g l:=by
 refine a0i s V _ fun b1 V1 l1 hb1 => ?_
 have hld:V1.load (some (Addr.mk b1 0 none))=some s.v:=by simp[View.load,hb1]
 exact⟨s,hld,(u0j (h.le l1) hz hS hld).mono fun v V2 l2 ⟨r,hv,hr⟩=>⟨r,hv,r,rfl,hr⟩⟩
theorem O0n (z w:Cq) : -1≤z.cmp w∧z.cmp w≤1:=by
 unfold Cq.cmp
 split
 · rcases u0h z.re w.re with⟨_,g⟩|⟨_,g⟩|⟨_,g⟩<;>rw[g]<;>decide
 · rcases u0h z.im w.im with⟨_,g⟩|⟨_,g⟩|⟨_,g⟩<;>rw[g]<;>decide
theorem Y0t {a b:Int} (ha : -1≤a∧a≤1) (hb : -1≤b∧b≤1):i64.wrap (a*b)=a*b:=by
 have h1:a = -1∨a=0∨a=1:=by omega
 have h2:b = -1∨b=0∨b=1:=by omega
 rcases h1 with rfl|rfl|rfl<;>rcases h2 with rfl|rfl|rfl<;>decide
theorem Z0r {V:View} {s:Sl} {l:List Tk} (h:F0a V s l) (hn:1≤l.length) (hn2:l.length≤2^40) {x:NumV} {p:Cq} (hx:c01 V x p) {S:Nat} (hz:∀k∈l,k.szle S) (zp:p.sz≤S) (hS:S≤2^28) :
 a00 prog x0m #[s.v,x.val] V fun v V'=>∃(r:NumV) (b:Bool),v = .tuple #[r.val,.bool b]∧b=(l0a p l).isSome∧c01 V' r ((l0a p l).getD Cq.zero):=by
 have hl:s.len=l.length:=h.len
 have ek:l[0]?=some l[0]:=List.getElem?_eq_getElem (by omega)
 obtain⟨g,y,hy,_,hs,⟨h1,g1⟩,h2,g2⟩:=o0f h (t:=0) (by omega) (k:=l[0]) ek
 obtain⟨z1,z2⟩:=hz _ (List.getElem_mem (show 0<l.length by omega))
 have e0:l0a p l=if l[0].place=p then some l[0].time else p0i p l[0] (l.drop 1):=by
  rw[show l0a p l=l0a p (l.drop 0)from rfl,g0p ek]; rfl
 refine f0l s x V _ (fun _ z _=>∃(i:Nat) (a:Tk),z.t6=i∧1≤i∧i≤l.length∧l[i-1]?=some a∧l0a p l=p0i p a (l.drop i)) (fun _ z _=>l.length-z.t6.toNat) ⟨g,hs,y.place,h2,g2,?_⟩
 refine(s0f hy.place hx (by omega) (by omega)).mono fun v V1 l1 hv=>⟨_,hv,fun c => ?_,fun c=>⟨?_,?_⟩⟩
 · have c:l[0].place=p:=by simpa using c
   rw[e0,if_pos c]
   exact⟨g,hs,y.time,A06 l1 h1,g1,_,_,rfl,rfl,hy.time.le l1⟩
 · have c:¬l[0].place=p:=by simpa using c
   exact⟨1,l[0],rfl,by omega,by omega,ek,by rw[e0,if_neg c]⟩
 rintro⟨t6,o4⟩ V2 l2 ⟨i,a,ei,i1,i2,ea,hE⟩
 dsimp only at ei ⊢
 subst ei
 have L2:=View.le_trans l1 l2
 rw[hl]
 refine⟨fun hlt => ?_,fun hge => ?_⟩
 · have hk:i<l.length:=by simp at hlt; omega
   rw[i64w (n:=(i:Int)-1) (by omega) (by omega),i64w (n:=(i:Int)+1) (by omega) (by omega)]
   have eb:l[i]?=some l[i]:=List.getElem?_eq_getElem hk
   obtain⟨za1,za2⟩:=hz a (List.mem_of_getElem? ea)
   obtain⟨zb1,zb2⟩:=hz _ (List.getElem_mem hk)
   rw[g0p eb]at hE
   obtain⟨ga,ya,hya,hha,hsa,_⟩:=o0f (h.le L2) (t:=(i:Int)-1) (by omega) (k:=a) (by rw[show((i:Int)-1).toNat=i-1 by omega]; exact ea)
   obtain⟨gb,yb,hyb,hhb,hsb,_⟩:=o0f (h.le L2) (t:=(i:Int)) (by omega) (k:=l[i]) (by rw[Int.toNat_natCast]; exact eb)
   rw[hl]at ga gb
   generalize l[i]=b at *
   have step:p0i p b (l.drop (i+1))=l0a p l→(∃(j:Nat) (a:Tk),((i:Int)+1)=j∧1≤j∧j≤l.length∧l[j-1]?=some a∧l0a p l=p0i p a (l.drop j))∧l.length-((i:Int)+1).toNat<l.length-(i:Int).toNat :=
    fun he=>⟨⟨i+1,b,by omega,by omega,by omega,by rw[Nat.add_sub_cancel]; exact eb,he.symm⟩,by omega⟩
   have eF:l0a p l=if 0<(a.place.cmp p)*(b.place.cmp p)∨a.place=b.place then p0i p b (l.drop (i+1))else some (B0l a.time b.time (p0n p a.place b.place)):=hE
   have hxx:=hx.le L2
   refine⟨ga,ya,hha,hsa,gb,yb,hhb,hsb,(n0a hya.place hxx (by omega) (by omega)).mono fun v V3 l3 hv=>⟨_,hv,?_⟩⟩
   refine(n0a (hyb.place.le l3) (hxx.le l3) (by omega) (by omega)).mono fun v V4 l4 hv=>⟨_,hv,?_⟩
   rw[Y0t (O0n _ _) (O0n _ _)]
   have L4:=View.le_trans l3 l4
   refine⟨fun c=>step ?_,fun c=>(s0f (hya.place.le L4) (hyb.place.le L4) (by omega) (by omega)).mono fun v V5 l5 hv=>⟨_,hv,fun d=>step ?_,fun d => ?_⟩⟩
   · rw[eF,if_pos (.inl (by simpa using c))]
   · rw[eF,if_pos (.inr (by simpa using d))]
   have c:¬0<(a.place.cmp p)*(b.place.cmp p):=by
    have:=of_decide_eq_false c
    exact this
   have d:¬a.place=b.place:=by simpa using d
   rw [if_neg (by rintro (g | g)
                  · exact c g
                  · exact d g)]at eF
   have L5:=View.le_trans L4 l5
   have s1:=O08 p a.place; have s2:=O08 b.place a.place
   have s3:=l0k (z:=p-a.place) (w:=b.place-a.place) (S:=2*S+2) (by omega) (by omega)
   refine(X0t (hxx.le L5) (hya.place.le L5) (hyb.place.le L5) zp za2 zb2 (by omega)).mono fun v V6 l6 ⟨r5,hv,h5⟩=>⟨r5,hv,?_⟩
   refine(M0n (hya.time.le (View.le_trans L5 l6)) (hyb.time.le (View.le_trans L5 l6)) h5 (S:=8*S+16) (by omega) (by omega) (by show((p-a.place).div (b.place-a.place)).sz≤_; omega) (by omega)).mono fun v V7 l7 ⟨r6,hv,h6⟩=>⟨r6,hv,?_⟩
   rw[eF]
   exact⟨_,_,rfl,rfl,h6⟩
 · have e:i=l.length:=by simp at hge; omega
   subst e
   rw[List.drop_length]at hE
   rw[hE]
   exact⟨_,_,rfl,rfl,c01.zero V2⟩
theorem Z0t {V:View} {s:Sl} {l:List Tk} (h:F0a V s l) {x:NumV} {p:Cq} (hx:c01 V x p) {S:Nat} (hz:∀k∈l,k.szle S) (zp:p.sz≤S) (hS:S≤2^28) :
 a00 prog q0o #[s.v,x.val] V fun v V'=>∃r:NumV,v = .tuple #[r.val,.int .i64 (s0n p l)]∧c01 V' r (t0n p l):=by
 have nil:∀(e:Int) (V':View),s0n p l=e→t0n p l=Cq.zero→∃r:NumV,Value.tuple #[zN.val,.int .i64 e]=Value.tuple #[r.val,.int .i64 (s0n p l)]∧c01 V' r (t0n p l):=fun e V' he h0=>by
  rw[he,h0]; exact⟨_,rfl,c01.zero V'⟩
 refine b0n s x V _ ((N0n h hz (by omega)).mono fun v V1 l1 ⟨r1,hv,e1⟩=>⟨r1,hv,fun c => ?_,fun c => ?_⟩)
 · have c:e0g l≠0:=by rw[←e1]; simpa using c
   exact nil _ V1 (by unfold s0n; rw[if_neg c,e1]) (by unfold t0n; rw[if_neg (by rintro⟨g,_⟩; exact c g)])
 have c:e0g l=0:=by rw[←e1]; simpa using c
 obtain⟨n1,n2,asc⟩:=t0t c
 refine(Y05 (hx.le l1)).mono fun v V2 l2 hv=>⟨_,hv,fun d => ?_,fun d => ?_⟩
 · have d:¬p.im=0:=by simpa using d
   exact nil _ V2 (by unfold s0n; rw[if_pos c,if_neg d]) (by unfold t0n; rw[if_neg (by rintro⟨_,g⟩; exact d g)])
 have d:p.im=0:=by simpa using d
 have eE:s0n p l=if(l0a p l).isSome=true then 0 else 5:=by unfold s0n; rw[if_pos c,if_pos d]
 have eV:t0n p l=(l0a p l).getD Cq.zero:=by unfold t0n; rw[if_pos ⟨c,d⟩]
 have L2:=View.le_trans l1 l2
 refine(Z0r (h.le L2) n1 (by omega) (hx.le L2) hz zp hS).mono fun v V3 l3 ⟨r3,b,hv,hb,h3⟩=>⟨r3,b,hv,fun f => ?_,fun f => ?_⟩
 · have f:b=false:=by simpa using f
   rw[f]at hb
   refine nil 5 V3 (by rw[eE,←hb]; rfl) ?_
   rw[eV]
   cases hq:l0a p l with
   | none=>rfl
   | some w=>rw[hq]at hb; simp at hb
 · have f:b=true:=by simpa using f
   rw[f]at hb
   rw[eE,eV,←hb]
   exact⟨r3,rfl,h3⟩
theorem U0u:(⟨((0:Int):Rat),0⟩:Cq)=Cq.zero:=rfl
theorem l0g {V:View}:a00 prog z0g #[.int .i64 0] V fun v V'=>∃r:NumV,v=r.val∧QAt V' r Cq.zero:=by
 have h:=B04 (V:=V) (n:=0) (by omega) (by omega)
 rw[U0u]at h
 exact h
theorem u0v {V:View} {x:NumV} {z:Cq} (h:QAt V x z) (hr:z.im=0):QAt V x ⟨z.re,0⟩:=by
 have:z=⟨z.re,0⟩:=Cq.ext' rfl hr
 rw[←this]; exact h
theorem Y0w {z:Cq} {S:Nat} (h:z.sz≤S) (hr:z.im=0):(⟨z.re,0⟩:Cq).sz≤S:=by
 have:z=⟨z.re,0⟩:=Cq.ext' rfl hr
 rw[←this]; exact h
def ms0:List Mk:=[⟨0,0,P3.zero⟩,⟨1,0,⟨intQ 2,Cq.zero,Cq.zero⟩⟩,⟨0,1,⟨intQ 1,intQ 3,Cq.zero⟩⟩]
def ts0:List Tk:=[⟨Cq.zero,Cq.zero⟩,⟨intQ 10,intQ 5⟩]
theorem q0p:fitE ms0=0:=by decide +kernel
theorem W0u:(if(fitF ms0).real=true then dotP (fitF ms0).u (fitF ms0).v else Cq.zero)=intQ 2:=by decide +kernel
theorem X0u:(fitF ms0).real=true:=by decide +kernel
theorem Y0u:s0n (intQ 3) ts0=0:=by decide +kernel
theorem Z0w:t0n (intQ 3) ts0=intQ 6:=by decide +kernel
theorem x0x:((cqS (intQ 2)).toList==(ByteArray.mk #[50]).toList)=true:=by decide +kernel
theorem y0x:((cqS (intQ 6)).toList==(ByteArray.mk #[54]).toList)=true:=by decide +kernel
theorem n0k {V:View} {n:Int} (h0 : -9223372036854775808≤n) (h1:n≤9223372036854775807) :
 a00 prog q0m #[.int .i64 n] V fun v V'=>∃r:NumV,v=r.val∧c01 V' r (intQ n):=Y0c h0 h1
theorem Z0v {V:View}:a00 prog s0m #[.int .i64 4,.int .i64 2] V fun v _=>v = .tuple #[.int .i64 (-2),.int .i64 0]:=by
 have h1:a00 prog B0k #[.int .i64 4] V fun v _=>v = .bool true :=
  o0j 4 V _ ⟨fun _=>⟨fun _=>rfl,fun h=>absurd h (by decide)⟩,fun h=>absurd h (by decide)⟩
 refine i0l 4 2 V _ (h1.mono fun v V1 _ hv=>⟨_,hv,fun h=>absurd h (by decide),fun _=>⟨fun h=>absurd h (by decide),fun _=>⟨fun h=>absurd h (by decide),fun _ => ?_⟩⟩⟩)
 exact(g0l 4 2 V1 (fun v _=>v = .int .i64 (-2)) ⟨fun h=>absurd h (by decide),fun _=>rfl⟩).mono fun v V2 _ hv=>⟨_,hv,rfl⟩
theorem C0f {V:View}:a00 prog x0c #[] V fun v _=>v = .bool true:=by
 refine o0c V _ ((n0k (by omega) (by omega)).mono fun v V1 l1 ⟨r1,hv,h1⟩=>⟨r1,hv,?_⟩)
 refine(n0k (by omega) (by omega)).mono fun v V2 l2 ⟨r2,hv,h2⟩=>⟨r2,hv,?_⟩
 refine(n0k (by omega) (by omega)).mono fun v V3 l3 ⟨r3,hv,h3⟩=>⟨r3,hv,fun b1 V4 l4 _ hb1 => ?_⟩
 have hz4:c01 V4 zN Cq.zero:=c01.zero V4
 have hM:d0d V4 (Sl.mk (some (Addr.mk b1 0 none)) 3 3) ms0:=by
  refine t00.of_block (V:=V4) (sz:=17) (P:=H0l) (zs:=ms0) (o:=(u0a.mk 0 0 ⟨zN,zN,zN⟩).val.cells.toList++((u0a.mk 1 0 ⟨r1,zN,zN⟩).val.cells.toList++(u0a.mk 0 1 ⟨r2,r3,zN⟩).val.cells.toList)) (o':=[]) (b:=b1) (fun _=>by rw[List.append_nil]; exact hb1) ?_ rfl (Nat.le_refl _) (fun _=>rfl)
  exact⟨_,_,rfl,rfl,⟨_,rfl,rfl,rfl,hz4,hz4,hz4⟩,_,_,rfl,rfl,⟨_,rfl,rfl,rfl,h1.le (View.le_trans l2 (View.le_trans l3 l4)),hz4,hz4⟩,_,[],by rw[List.append_nil],rfl,⟨_,rfl,rfl,rfl,h2.le (View.le_trans l3 l4),h3.le l4,hz4⟩,rfl⟩
 have s0:∀m∈ms0,m.in64∧m.p.szle 1100:=by
  have z0:Cq.zero.sz≤64:=by decide +kernel
  have i0:∀n:Int,-9223372036854775808≤n∧n≤9223372036854775807→(intQ n).sz≤1100:=fun n h=>Nat.le_trans (Z05 h) (by omega)
  intro m hm
  simp only[ms0,List.mem_cons,List.not_mem_nil,or_false]at hm
  rcases hm with rfl|rfl|rfl
  · exact⟨⟨⟨by decide,by decide⟩,⟨by decide,by decide⟩⟩,Nat.le_trans z0 (by omega),Nat.le_trans z0 (by omega),Nat.le_trans z0 (by omega)⟩
  · exact⟨⟨⟨by decide,by decide⟩,⟨by decide,by decide⟩⟩,i0 2 (by omega),Nat.le_trans z0 (by omega),Nat.le_trans z0 (by omega)⟩
  · exact⟨⟨⟨by decide,by decide⟩,⟨by decide,by decide⟩⟩,i0 1 (by omega),i0 3 (by omega),Nat.le_trans z0 (by omega)⟩
 refine(l0q hM (fun m hm=>(s0 m hm).1) (fun m hm=>(s0 m hm).2)).mono fun v V5 l5 ⟨r4,hv,h4,hsz⟩=>⟨r4,_,hv,?_⟩
 rw[q0p]at h4
 simp only[if_true]at h4
 refine(Q0t h4 (hsz q0p) (by omega)).mono fun v V6 l6 ⟨r6,hv,h6⟩=>⟨r6,_,hv,?_⟩
 rw[W0u]at h6
 refine(n0k (by omega) (by omega)).mono fun v V7 l7 ⟨r8,hv,h8⟩=>⟨r8,hv,?_⟩
 refine(n0k (by omega) (by omega)).mono fun v V8 l8 ⟨r9,hv,h9⟩=>⟨r9,hv,fun b2 V9 l9 _ hb2 => ?_⟩
 have hz9:c01 V9 zN Cq.zero:=c01.zero V9
 have hT:F0a V9 (Sl.mk (some (Addr.mk b2 0 none)) 2 2) ts0:=by
  refine t00.of_block (V:=V9) (sz:=10) (P:=Q0r) (zs:=ts0) (o:=(T0f.mk zN zN).val.cells.toList++(T0f.mk r8 r9).val.cells.toList) (o':=[]) (b:=b2) (fun _=>by rw[List.append_nil]; exact hb2) ?_ rfl (Nat.le_refl _) (fun _=>rfl)
  exact⟨_,_,rfl,rfl,⟨_,rfl,hz9,hz9⟩,_,[],by rw[List.append_nil],rfl,⟨_,rfl,h8.le (View.le_trans l8 l9),h9.le l9⟩,rfl⟩
 refine(n0k (by omega) (by omega)).mono fun v V10 l10 ⟨r10,hv,h10⟩=>⟨r10,hv,?_⟩
 have t0:∀k∈ts0,k.szle 64:=by
  have z0:Cq.zero.sz≤64:=by decide +kernel
  intro k hk
  simp only[ts0,List.mem_cons,List.not_mem_nil,or_false]at hk
  rcases hk with rfl|rfl
  · exact⟨z0,z0⟩
  · exact⟨Z05 (by omega),Z05 (by omega)⟩
 refine(Z0t (S:=64) (hT.le l10) h10 t0 (Z05 (by omega)) (by omega)).mono fun v V11 l11 ⟨r11,hv,h11⟩=>⟨r11,_,hv,?_⟩
 rw[Z0w]at h11
 refine Z0v.mono fun v V12 l12 hv=>⟨_,_,hv,fun _=>⟨fun _ => ?_,fun h => ?_⟩,fun h => ?_⟩
 · have L12:=View.le_trans l7 (View.le_trans l8 (View.le_trans l9 (View.le_trans l10 (View.le_trans l11 l12))))
   have i2:(intQ 2).sz≤2^40:=Nat.le_trans (Z05 (by omega)) (by omega)
   have i6:(intQ 6).sz≤2^40:=Nat.le_trans (Z05 (by omega)) (by omega)
   refine(M0b (h6.le L12) i2).mono fun v V13 l13 hv=>⟨_,hv,fun _=>⟨fun _ => ?_,fun h => ?_⟩,fun h => ?_⟩
   · refine(M0b (h11.le (View.le_trans l12 l13)) i6).mono fun v V14 _ hv=>⟨_,hv,fun _=>⟨fun _=>rfl,fun h=>absurd h (by decide)⟩,fun h => ?_⟩
     rw[y0x]at h; exact absurd h (by decide)
   · rw[Y0u]at h; exact absurd h (by decide)
   · rw[x0x]at h; exact absurd h (by decide)
 · rw[if_pos X0u]at h; exact absurd h (by decide)
 · rw[q0p]at h; exact absurd h (by decide)
theorem m0b {V:View} {s:Sl} {N:Nat} (h:x00 V s N) (hb:bl N≤2^42) :
 a00 prog e08 #[s.v] V fun v _=>v = .string (decS N):=by
 have hz:=h.len_zero
 have hlow:=d0g N
 refine b0i s V _
  (fun _ x V'=>∃(X:Nat) (dl:List Nat),x00 V' x.t0 X∧X≤N∧L03 1 x.t3l x.t3c x.o3 (digC dl)∧x.t3l=dl.length∧low N=dl++low X) (fun _ x V'=>c0e V' x.t0)
  (fun c x V'=>∃(q r k:Nat) (dl:List Nat),x00 V' c.t4 q∧q≤N∧x.t5=(r:Int)∧x.t6=(k:Int)∧k≤9∧r<10^(9-k)∧L03 1 x.t3l x.t3c x.o3 (digC dl)∧x.t3l=dl.length∧low N=dl++low (q*10^(9-k)+r)) (fun _ x _=>(9-x.t6).toNat)
  (fun c x _=>∃(i j:Nat) (w:List Value),x.t7=(i:Int)∧x.t8=(j:Int)∧j+i=c.t3l-1∧(i≤j+1)∧x.o3=revI w c.t3l i∧L03 1 c.t3l c.t3c w (digC (low N))∧c.t3l=(low N).length) (fun _ x _=>(x.t8-x.t7+2).toNat)
  ⟨fun h0 => ?_,fun h0=>⟨⟨N,[],h,Nat.le_refl _,L03.nil,rfl,rfl⟩,?_⟩⟩
 · have:s.len=0:=by have:(s.len:Int)=0:=(by simpa using h0); omega
   rw[hz.1 this,m0n]
 have hN0:N≠0:=by
  intro e; rw[←hz]at e; rw[e]at h0; simp at h0
 rintro⟨t0,n,c,o⟩ V1 l1 ⟨X,dl,hX,hXN,hlo,hn,hval⟩
 dsimp only at hX hlo hn ⊢
 have hXz:=hX.len_zero
 refine⟨fun hp => ?_,fun hp => ?_⟩
 · simp only[gt_iff_lt,decide_eq_true_eq]at hp
   have hX0:X≠0:=fun e=>by rw[←hXz]at e; omega
   have hbX:bl X≤2^42:=Nat.le_trans (L0c hXN) hb
   refine(o0a (d:=1000000000) hX (g0i (by omega)) (by omega) (by omega)).mono fun v V2 l2 ⟨r1,hv,h1⟩=>⟨r1,_,hv,⟨X / 1000000000,X%1000000000,0,dl,h1,Nat.le_trans (Nat.div_le_self _ _) hXN,rfl,rfl,by omega,?_,hlo,hn,?_⟩,?_⟩
   · exact Nat.mod_lt _ (by omega)
   · have:X / 1000000000*10^(9-0)+X%1000000000=X:=by
       rw[show(10:Nat)^(9-0)=1000000000 by decide]; omega
     rw[this]; exact hval
   rintro⟨n3,c3,r3,k3,o3⟩ V3 l3 ⟨q,r,k,dl3,hq,hqN,rfl,rfl,hk,hr,hlo3,hn3,hval3⟩
   dsimp only at hq hlo3 hn3 ⊢
   have hqe:=hq.inj (h1.le l3)
   have hlt9:r<1000000000:=Nat.lt_of_lt_of_le hr (by
    have:(10:Nat)^(9-k)≤10^9:=Nat.pow_le_pow_right (by omega) (by omega)
    exact Nat.le_trans this (by decide))
   have hl3:dl3.length≤2^42:=by
    have:=congrArg List.length hval3
    rw[List.length_append]at this; omega
   have hqz:=hq.len_zero
   have step:(q≠0∨r≠0)→k<9→∀(b1:Nat) (V4:View),V3.le V4→View.Fin V4→V4 b1=some #[.int .u8 (u8.wrap (u32.wrap (48+(Int.tmod (r:Int) 10))))] →
    ∃(l1:List Value) (l2:List Value),L03 1 n3 c3 o3 l1∧View.has V4 (some (Addr.mk b1 0 none)) l2∧List.length l2=1*1∧(∀v∈l2,Value.oneCell' v=true)∧n3+1≤maxLen∧(n3+1)*1≤140737488355328 ∧
    ∀(c1:Nat) (l3:List Value),L03 1 (n3+1) c1 l3 (l1++l2) →
    (∃(q' r' k':Nat) (dl:List Nat),x00 V4 r1 q'∧q'≤N∧(u32.wrap (Int.tdiv (r:Int) 10))=(r':Int)∧(i64.wrap ((k:Int)+1))=(k':Int)∧k'≤9∧r'<10^(9-k')∧L03 1 (n3+1) c1 l3 (digC dl)∧n3+1=dl.length∧low N=dl++low (q'*10^(9-k')+r'))∧(9-(i64.wrap ((k:Int)+1))).toNat<(9-(k:Int)).toNat:=by
    intro hne hk9 b1 V4 l4 _ hb1
    rw[W0w]at hb1
    have hrr:r / 10<10^(9-(k+1)):=by
     have:10^(9-k)=10^(9-(k+1))*10:=by rw[←Nat.pow_succ]; congr 1; omega
     omega
    have hst:=Y0p (q:=q) (r:=r) (k:=9-(k+1)) hne
    rw[show 9-(k+1)+1=9-k by omega]at hst
    refine⟨digC dl3,[.int .u8 ((48+r%10:Nat):Int)],hlo3,a0d hb1,rfl,oneC _,Nat.le_trans (show n3+1≤2^43 by omega) (by decide),by omega,fun c1 l3' hl3'=>⟨⟨q,r / 10,k+1,dl3++[r%10],hq.le l4,hqN,u32q (by omega),by rw[i64w (by omega) (by omega)]; omega,hk9,hrr,?_,by simp[hn3],?_⟩,by rw[i64w (by omega) (by omega)]; omega⟩⟩
    · rw[←o0i]; exact hl3'
    · rw[hval3,hst]; simp
   have stop:(k=9∨q=0∧r=0)→(∃(X:Nat) (dl:List Nat),x00 V3 r1 X∧X≤N∧L03 1 n3 c3 o3 (digC dl)∧n3=dl.length∧low N=dl++low X)∧c0e V3 r1<c0e V1 t0:=by
    intro hs
    refine⟨⟨q,dl3,hq,hqN,hlo3,hn3,?_⟩,?_⟩
    · rcases hs with rfl|⟨rfl,rfl⟩
      · have:r=0:=by simp at hr; omega
        subst this
        simpa using hval3
      · simpa using hval3
    · rw[J08 hq,J08 hX,hqe]
      omega
   refine⟨fun hk9=>⟨fun hr1=>⟨fun _=>step (.inr ?_) (by have:(k:Int)<9:=(by simpa using hk9); omega),fun h=>absurd h (by simp)⟩,fun hr1=>⟨fun hq1=>step (.inl ?_) (by have:(k:Int)<9:=(by simpa using hk9); omega),fun hq1=>stop (.inr ⟨?_,?_⟩)⟩⟩,fun hk9=>⟨fun h=>absurd h (by simp),fun _=>stop (.inl ?_)⟩⟩
   · simp only[gt_iff_lt,decide_eq_true_eq]at hr1; omega
   · simp only[gt_iff_lt,decide_eq_true_eq]at hq1
     intro e; rw[←hqz]at e; omega
   · simp only[gt_iff_lt,decide_eq_false_iff_not]at hq1; exact hqz.1 (by omega)
   · simp only[gt_iff_lt,decide_eq_false_iff_not]at hr1; omega
   · simp only[decide_eq_false_iff_not]at hk9; omega
 · simp only[gt_iff_lt,decide_eq_false_iff_not]at hp
   have hX0:X=0:=hXz.1 (by omega)
   rw[hX0,p0h,List.append_nil]at hval
   subst hval
   have hd0:low N≠[]:=by rw[n0i hN0]; simp
   have hl0:0<(low N).length:=List.length_pos_iff.2 hd0
   have hle:=hlo.le
   have hol:=hlo.len
   rw[Nat.mul_one]at hol
   refine⟨⟨by intro e; rw[e]at hol; simp at hol; omega,⟨by omega,trivial⟩,trivial⟩,⟨0,n-1,o,rfl,?_,by omega,by omega,(n0n o n).symm,hlo,hn⟩,?_⟩
   · show i64.wrap ((n:Int)-1)=_
     rw[i64w (by omega) (by omega)]; omega
   rintro⟨t7,t8,o7⟩ V7 l7 ⟨i,j,w,rfl,rfl,hij,hi,rfl,hw,_⟩
   dsimp only at hij hw ⊢
   have hwt:=hw.take
   have hwl:=hw.len
   rw[Nat.mul_one]at hwt hwl
   have htl:n≤w.length:=by omega
   have g:∀p,p<n→w[p]?=some (.int .u8 (((48+(low N).getD p 0:Nat):Nat):Int)):=by
    intro p hp'
    rw[←List.getElem?_take_of_lt hp',hwt]
    exact m0q (by omega)
   have gd:∀p,p<n→w.getD p undef = .int .u8 (((48+(low N).getD p 0:Nat):Nat):Int):=fun p hp=>by simp only[List.getD]; rw[g p hp]; rfl
   refine⟨fun hlt => ?_,fun hge => ?_⟩
   · simp only[decide_eq_true_eq]at hlt
     have hij':i<j:=by omega
     rw[i64w (n:=(i:Int)+1) (by omega) (by omega),i64w (n:=(j:Int)-1) (by omega) (by omega)]
     simp only[Int.toNat_natCast,Nat.mul_one,Nat.zero_add]
     refine⟨⟨by omega,by omega⟩,((48+(low N).getD j 0:Nat):Int),?_,⟨by omega,by omega⟩,((48+(low N).getD i 0:Nat):Int),?_,⟨by omega,by omega⟩,by rw[D05]; omega,⟨by omega,by omega⟩,by rw[List.length_set,D05]; omega,⟨i+1,j-1,w,by omega,by omega,by omega,by omega,?_,hw,hn⟩,by omega⟩
     · rw[s0h (by omega) (by omega) (by omega),gd j (by omega)]
     · rw[s0h (by omega) (by omega) (by omega),gd i (by omega)]
     · have:=o0n (o:=w) htl hij hij'
       rw[gd i (by omega),gd j (by omega)]at this
       exact this
   · simp only[decide_eq_false_iff_not]at hge
     intro b4 V8 l8 hb4
     have ht10:=a0q (i:=i) htl (by omega)
     rw[hwt,b0q hN0]at ht10
     refine⟨decL N,?_,by rw[I0b hN0]; omega,rfl,rfl⟩
     intro j' v hj
     have hjl:j'<n:=by
      rcases Nat.lt_or_ge j' n with h|h
      · exact h
      · rw[List.getElem?_eq_none (by simp[I0b hN0]; omega)]at hj; simp at hj
     rw[a08 hb4]
     rw[←ht10,List.getElem?_take_of_lt hjl]at hj
     simpa using hj
theorem Z0u {V:View} {s:Sl} {n:Nat} (h:x00 V s n) (hl:s.len=1):((dig n).getD 0 0=1)↔n=1:=by
 have h2:=h.len
 rw[hl]at h2
 have h3:=z01 n
 obtain⟨w,hw⟩:∃w,dig n=[w]:=List.length_eq_one_iff.1 h2.symm
 rw[hw]at h3 ⊢
 simp[wval]at h3 ⊢
 omega
theorem i06 {V:View} {x:WhV} {s:Sl} {a:Int} {d:Nat} (hx:y03 V x a) (hs:x00 V s d) (hd:d≠0) (ha:bl a.natAbs≤2^41) (hdb:bl d≤2^41) :
 a00 prog F0o #[x.val,s.v] V fun v _=>v = .string (ratT a d):=by
 obtain⟨b1,b2⟩:=I0l (a:=a) hd
 obtain⟨e1,e2,e3⟩:=J0n (a:=a) hd
 have s1:=j0b (Q05 a d).A.natAbs
 have s2:=j0b (Q05 a d).D
 have hmax:i64.max=9223372036854775807:=by decide
 have z1:(ByteArray.mk #[45]).size=1:=rfl
 have z2:(ByteArray.mk #[47]).size=1:=rfl
 have hg0:0<Nat.gcd a.natAbs d:=Nat.gcd_pos_of_pos_right _ (by omega)
 refine c0n x s V _ ((Y08 hx.2 hs (g0i (by omega)) (g0i (by omega))).mono fun v V1 l1 ⟨r1,hv,h1⟩=>⟨r1,hv,?_⟩)
 refine(o05 (hx.2.le l1) h1 (g0i (by omega)) (by omega)).mono fun v V2 l2 ⟨q1,m1,hv,h2,_⟩=>⟨q1,m1,hv,?_⟩
 refine(o05 (hs.le (View.le_trans l1 l2)) (h1.le l2) (g0i (by omega)) (by omega)).mono fun v V3 l3 ⟨q2,m2,hv,h3,_⟩=>⟨q2,m2,hv,?_⟩
 rw[←e1]at h2
 rw[←e2]at h3
 refine(m0b (h2.le l3) (by omega)).mono fun v V4 l4 hv=>⟨_,hv,?_⟩
 have h3':=h3.le l4
 have hn:=hx.1
 have one:q2.len=1→(((0:Int)≤0∧(0:Int)<(q2.len:Nat)∧Option.isSome q2.a=true)∧View.load V4 (Option.map (fun q=>Addr.add q (Int.toNat 0*1)) q2.a)=some (.int .u32 (((dig (Q05 a d).D).getD (Int.toNat 0) 0:Nat):Int))):=fun hl =>
  ⟨⟨by omega,by omega,h3'.isSome (by omega)⟩,h3'.get (by omega) (by omega)⟩
 have ne1:(Q05 a d).D=1→q2.len=1:=fun e=>by rw[e]at h3'; have:=h3'.len; rw[o0p]at this; exact this
 have rest:∀(pre:ByteArray),pre.size≤2^42+2→(Q05 a d).D≠1→ratT a d=pre++(q0h++decS (Q05 a d).D) →
  ((ByteArray.size pre+ByteArray.size (ByteArray.mk #[47]):Nat):Int)≤i64.max ∧
  a00 prog e08 #[q2.v] V4 fun v V5=>∃r7:ByteArray,v = .string r7 ∧
  ((ByteArray.size (pre++(ByteArray.mk #[47]))+ByteArray.size r7:Nat):Int)≤i64.max ∧
  Value.string ((pre++(ByteArray.mk #[47]))++r7)=Value.string (ratT a d):=by
  intro pre hp h1 he
  refine⟨by rw[z2,hmax]; omega,(m0b h3' (by omega)).mono fun v V5 l5 hv=>⟨_,hv,by rw[l05,z2,hmax]; omega,?_⟩⟩
  rw[he,H0b]; rfl
 have tail:∀(pre:ByteArray),pre.size≤2^42+2→((Q05 a d).D=1→ratT a d=pre)→((Q05 a d).D≠1→ratT a d=pre++(q0h++decS (Q05 a d).D)) →
  ((((q2.len:Int):Int)==1)=true →
  ((0:Int)≤0∧(0:Int)<(q2.len:Nat)∧Option.isSome q2.a=true) ∧
  ∃x1:Int,View.load V4 (Option.map (fun q=>Addr.add q (Int.toNat 0*1)) q2.a)=some (.int .u32 x1) ∧
  (((x1:Int)==1)=true→Value.string pre=Value.string (ratT a d)) ∧
  (((x1:Int)==1)=false →
    ((ByteArray.size pre+ByteArray.size (ByteArray.mk #[47]):Nat):Int)≤i64.max ∧
    a00 prog e08 #[q2.v] V4 fun v V5=>∃r7:ByteArray,v = .string r7 ∧
    ((ByteArray.size (pre++(ByteArray.mk #[47]))+ByteArray.size r7:Nat):Int)≤i64.max ∧
    Value.string ((pre++(ByteArray.mk #[47]))++r7)=Value.string (ratT a d))) ∧
  ((((q2.len:Int):Int)==1)=false →
  (false=true→Value.string pre=Value.string (ratT a d)) ∧
  (false=false →
    ((ByteArray.size pre+ByteArray.size (ByteArray.mk #[47]):Nat):Int)≤i64.max ∧
    a00 prog e08 #[q2.v] V4 fun v V6=>∃r8:ByteArray,v = .string r8 ∧
    ((ByteArray.size (pre++(ByteArray.mk #[47]))+ByteArray.size r8:Nat):Int)≤i64.max ∧
    Value.string ((pre++(ByteArray.mk #[47]))++r8)=Value.string (ratT a d))):=by
  intro pre hp he hne
  refine⟨fun hl => ?_,fun hl=>⟨fun h=>absurd h (by simp),fun _ => ?_⟩⟩
  · have hl:q2.len=1:=by have:(q2.len:Int)=1:=(by simpa using hl); omega
    obtain⟨g1,g2⟩:=one hl
    have hw:=Z0u h3' hl
    refine⟨g1,_,g2,fun h => ?_,fun h => ?_⟩
    · have:(((dig (Q05 a d).D).getD 0 0:Nat):Int)=1:=of_decide_eq_true (by rw[←h]; rfl)
      rw[he (hw.1 (by omega))]
    · have:¬(((dig (Q05 a d).D).getD 0 0:Nat):Int)=1:=of_decide_eq_false (by rw[←h]; rfl)
      have h1:(Q05 a d).D≠1:=fun e=>this (by have:=hw.2 e; omega)
      exact rest pre hp h1 (hne h1)
  · have h1:(Q05 a d).D≠1:=fun e=>by rw[ne1 e]at hl; simp at hl
    exact rest pre hp h1 (hne h1)
 refine⟨fun hneg=>⟨by rw[z1,hmax]; omega,tail _ (by rw[l05,z1]; omega) (fun e => ?_) (fun e => ?_)⟩,fun hneg=>tail _ (by omega) (fun e => ?_) (fun e => ?_)⟩
 all_goals
  rw[hneg]at hn
  unfold ratT ratS
 · have hn:(Q05 a d).A<0:=e3.2 (of_decide_eq_true hn.symm)
   simp only[hn,e,if_true]; rfl
 · have hn:(Q05 a d).A<0:=e3.2 (of_decide_eq_true hn.symm)
   simp only[hn,e,if_true,if_false]; rfl
 · have hn:¬(Q05 a d).A<0:=fun h=>(of_decide_eq_false hn.symm) (e3.1 h)
   simp only[hn,e,if_true,if_false]
 · have hn:¬(Q05 a d).A<0:=fun h=>(of_decide_eq_false hn.symm) (e3.1 h)
   simp only[hn,e,if_false]
theorem w0j {V:View} {x:NumV} {z:Cq} (hx:QAt V x z) (hz:z.sz≤2^40):a00 prog y0o #[x.val] V fun v _=>v = .string (cqS z):=by
 have zA:=z.szA; have zB:=z.szB; have zD:=z.szD
 have hD:=z.D_pos
 have t1:=z0f (a:=z.A) hD
 have t2:=z0f (a:=z.B) hD
 have hmax:i64.max=9223372036854775807:=by decide
 have z1:(ByteArray.mk #[105]).size=1:=rfl
 have z2:(ByteArray.mk #[43]).size=1:=rfl
 have hA0:=e0d hx.re
 have hB0:=e0d hx.im
 rw[s0v]
 refine d0n x V _ ⟨fun hr => ?_,fun hr=>⟨fun hA => ?_,fun hA => ?_⟩⟩
 · have hB:z.B=0:=hB0.1 ((lenT _).1 hr)
   rw[if_pos hB]
   exact(i06 hx.re hx.under hD (by omega) (by omega)).mono fun v V3 l3 hv=>⟨_,hv,rfl⟩
 all_goals
  have hB:¬z.B=0:=fun e=>by rw[hB0.2 e]at hr; simp at hr
  rw[if_neg hB]
 · have hA:z.A=0:=hA0.1 ((lenT _).1 hA)
   rw[if_pos hA]
   exact(i06 hx.im hx.under hD (by omega) (by omega)).mono fun v V3 l3 hv=>⟨_,hv,by rw[z1,hmax]; omega,rfl⟩
 · have hA:¬z.A=0:=fun e=>by rw[hA0.2 e]at hA; simp at hA
   have hneg:=hx.im.1
   rw[if_neg hA]
   refine⟨fun hn => ?_,fun hn => ?_⟩
   · rw[hn]at hneg
     rw[if_pos (of_decide_eq_true hneg.symm)]
     refine(i06 hx.re hx.under hD (by omega) (by omega)).mono fun v V3 l3 hv=>⟨_,hv,?_⟩
     refine(i06 (hx.im.le l3) (hx.under.le l3) hD (by omega) (by omega)).mono fun v V4 l4 hv=>⟨_,hv,by rw[hmax]; omega,by rw[l05,z1,hmax]; omega,?_⟩
     rw[H0b]; rfl
   · rw[hn]at hneg
     rw[if_neg (of_decide_eq_false hneg.symm)]
     refine(i06 hx.re hx.under hD (by omega) (by omega)).mono fun v V3 l3 hv=>⟨_,hv,by rw[z2,hmax]; omega,?_⟩
     refine(i06 (hx.im.le l3) (hx.under.le l3) hD (by omega) (by omega)).mono fun v V4 l4 hv=>⟨_,hv,by rw[l05,z2,hmax]; omega,by rw[l05,l05,z1,z2,hmax]; omega,?_⟩
     rw[H0b,H0b]; rfl
theorem P0n {V:View} {x y:NumV} {z:Cq} (hx:c01 V x z) (hy:QAt V y z) (hz:z.sz≤2^40):a00 prog F0s #[x.val,y.val] V fun v _=>v = .bool true:=by
 refine J0r x y V _ ((M0b hx hz).mono fun v V1 l1 hv=>⟨_,hv,(w0j (hy.le l1) hz).mono fun v V2 l2 hv=>⟨_,hv,?_⟩⟩)
 rw[beq_self_eq_true]
def qC (V:View) (x:List Value) (z:Cq):Prop:=∃n:NumV,x=n.val.cells.toList∧QAt V n z
theorem qC.le {V V':View} (hle:V.le V') (x:List Value) (z:Cq) (h:qC V x z):qC V' x z:=by
 obtain⟨n,e,hn⟩:=h; exact⟨n,e,hn.le hle⟩
def QsAt (V:View) (s:Sl) (zs:List Cq):Prop:=t00 5 qC V s zs
theorem QsAt.le {V V':View} (hle:V.le V') {s:Sl} {zs:List Cq} (h:QsAt V s zs):QsAt V' s zs:=t00.le (qC.le hle) hle h
def arrI (a:Arr3):Prop:=ratI a.e0∧ratI a.e1∧ratI a.e2
def arrP (a:Arr3):P3:=⟨ratQ a.e0,ratQ a.e1,ratQ a.e2⟩
theorem Q0l {a:Arr3} (h:arrI a):(arrP a).szle 64:=⟨z0i h.1,z0i h.2.1,z0i h.2.2⟩
theorem p0a {V:View} {a:Arr3} (h:arrI a):a00 prog J0d #[a.val] V fun v V'=>∃r1 r2:I00,v = .tuple #[r1.val,r2.val]∧M05 V' r1 (arrP a)∧X09 V' r2 (arrP a):=by
 obtain⟨h0,h1,h2⟩:=h
 refine H0c a V _ ⟨⟨by omega,by omega⟩,⟨by omega,by omega⟩,⟨by omega,by omega⟩,⟨by omega,by omega⟩,⟨by omega,by omega⟩,⟨by omega,by omega⟩,?_⟩
 refine(Z0c h0).mono fun v V1 l1 ⟨r1,hv,a1⟩=>⟨r1,hv,(Z0c h1).mono fun v V2 l2 ⟨r2,hv,a2⟩=>⟨r2,hv,(Z0c h2).mono fun v V3 l3 ⟨r3,hv,a3⟩=>⟨r3,hv,?_⟩⟩⟩
 refine(N0b h0).mono fun v V4 l4 ⟨r4,hv,a4⟩=>⟨r4,hv,(N0b h1).mono fun v V5 l5 ⟨r5,hv,a5⟩=>⟨r5,hv,(N0b h2).mono fun v V6 l6 ⟨r6,hv,a6⟩=>⟨r6,hv,⟨r1,r2,r3⟩,⟨r4,r5,r6⟩,rfl,?_,?_⟩⟩⟩
 · have L:=View.le_trans l4 (View.le_trans l5 l6)
   exact⟨a1.le (View.le_trans l2 (View.le_trans l3 L)),a2.le (View.le_trans l3 L),a3.le L⟩
 · exact⟨a4.le (View.le_trans l5 l6),a5.le l6,a6⟩
theorem F0d {V:View} {x y:NumV} {z:Cq} (hx:c01 V x z) (hy:QZ V y z) (hz:z.sz≤2^40):a00 prog U0e #[x.val,y.val] V fun v _=>v = .bool true:=by
 refine x0e x y V _ ⟨fun h0 => ?_,fun h0 => ?_⟩
 · rcases hy with hy|⟨_,e⟩
   · have h1:=hy.under.len_zero.1 (by simpa using h0)
     have:=z.D_pos
     omega
   · exact(H0a hx hz).mono fun v V1 _ hv=>⟨_,hv,by rw[e]; rfl⟩
 · rcases hy with hy|⟨e,_⟩
   · exact(P0n hx hy hz).mono fun v V1 _ hv=>⟨_,hv,rfl⟩
   · rw[e]at h0; exact absurd h0 (by decide)
theorem J0a {V:View} {a b:I00} {p:P3} {S:Nat} (ha:M05 V a p) (hb:c0g V b p) (hz:p.szle S) (hS:S≤2^40):a00 prog e0c #[a.val,b.val] V fun v _=>v = .bool true:=by
 obtain⟨z1,z2,z3⟩:=hz
 refine E0b a b V _ ((F0d ha.x hb.x (by omega)).mono fun v V1 l1 hv=>⟨_,hv,fun _ => ?_,fun h=>absurd h (by decide)⟩)
 refine(F0d (ha.y.le l1) (hb.y.le l1) (by omega)).mono fun v V2 l2 hv=>⟨_,hv,fun _ => ?_,fun h=>absurd h (by decide)⟩
 have L:=View.le_trans l1 l2
 exact(F0d (ha.z.le L) (hb.z.le L) (by omega)).mono fun v V3 _ hv=>⟨_,hv,rfl⟩
def lfI (a:T08):Prop:=arrI a.o∧arrI a.u∧arrI a.v
def lfF (a:T08):F3:=⟨arrP a.o,arrP a.u,arrP a.v⟩
theorem a0x {a:T08} (h:lfI a):(lfF a).szle 64:=⟨Q0l h.1,Q0l h.2.1,Q0l h.2.2⟩
theorem x0j {V:View} {a:T08} (h:lfI a):a00 prog d0c #[a.val] V fun v V'=>∃r1 r2:o01,v = .tuple #[r1.val,r2.val]∧K07 V' r1 (lfF a)∧d0e V' r2 (lfF a):=by
 obtain⟨h0,h1,h2⟩:=h
 refine F0b a V _ ((p0a h0).mono fun v V1 l1 ⟨r1,r2,hv,a1,a2⟩=>⟨r1,r2,hv,?_⟩)
 refine(p0a h1).mono fun v V2 l2 ⟨r3,r4,hv,a3,a4⟩=>⟨r3,r4,hv,?_⟩
 refine(p0a h2).mono fun v V3 l3 ⟨r5,r6,hv,a5,a6⟩=>⟨r5,r6,hv,⟨r1,r3,r5⟩,⟨r2,r4,r6⟩,rfl,?_,?_⟩
 · exact⟨a1.le (View.le_trans l2 l3),a3.le l3,a5⟩
 · exact⟨a2.le (View.le_trans l2 l3),a4.le l3,a6⟩
theorem A0i {V:View} {a b:o01} {f:F3} {S:Nat} (ha:K07 V a f) (hb:m0i V b f) (hz:f.szle S) (hS:S≤2^40):a00 prog t0b #[a.val,b.val] V fun v _=>v = .bool true:=by
 refine f0b a b V _ ((J0a ha.o hb.o hz.o hS).mono fun v V1 l1 hv=>⟨_,hv,fun _ => ?_,fun h=>absurd h (by decide)⟩)
 refine(J0a (ha.u.le l1) (hb.u.le l1) hz.u hS).mono fun v V2 l2 hv=>⟨_,hv,fun _ => ?_,fun h=>absurd h (by decide)⟩
 have L:=View.le_trans l1 l2
 exact(J0a (ha.v.le L) (hb.v.le L) hz.v hS).mono fun v V3 _ hv=>⟨_,hv,rfl⟩
theorem a0v {α β:Type} {f:α→β} {l:List α} {t:Nat} {k:α} (h:l[t]?=some k):(l.take (t+1)).map f=(l.take t).map f++[f k]:=by
 rw[List.take_add_one,h]; simp
end Go.Proofs.YtfdaofhjkdabbaaGreat
namespace Go.Proofs.YtfdaofhjkdabbaaGreat
open Go Go.Vc Go.Proofs Go.ChangeShapes Go.RowKit
abbrev i3 (fs:List FK):List FK := .int .i64 :: .int .i64 :: .int .i64::fs
theorem a0w {fs:List FK} {cs:List Value} (h:q0c (i3 fs) cs) :
 ∃(r:RatV) (cs':List Value),cs = .int .i64 r.re :: .int .i64 r.im :: .int .i64 r.den::cs'∧ratI r∧q0c fs cs':=by
 cases cs with
 | nil=>exact h.elim
 | cons x cs =>
   obtain⟨⟨a,e1,w1⟩,h⟩:=h
   cases cs with
   | nil=>exact h.elim
   | cons y cs =>
     obtain⟨⟨b,e2,w2⟩,h⟩:=h
     cases cs with
     | nil=>exact h.elim
     | cons z cs =>
       obtain⟨⟨c,e3,w3⟩,h⟩:=h
       exact⟨⟨a,b,c⟩,cs,by rw[e1,e2,e3],⟨bounds_i64 w1,bounds_i64 w2,bounds_i64 w3⟩,h⟩
theorem nine {fs:List FK} {cs:List Value} (h:q0c (i3 (i3 (i3 fs))) cs):∃(a:Arr3) (cs':List Value),cs=a.val.cells.toList++cs'∧arrI a∧q0c fs cs':=by
 obtain⟨r0,c0,e0,h0,h⟩:=a0w h
 obtain⟨r1,c1,e1,h1,h⟩:=a0w h
 obtain⟨r2,c2,e2,h2,h⟩:=a0w h
 exact⟨⟨r0,r1,r2⟩,c2,by rw[e0,e1,e2]; rfl,⟨h0,h1,h2⟩,h⟩
theorem Q0n {cs:List Value} (h:q0c [] cs):cs=[]:=by
 cases cs with
 | nil=>rfl
 | cons _ _=>exact h.elim
section
variable {H:Type} {enc:TypeId×Value→H} {P:Program} {w:World} {base:Nat} {spare:Nat→Bool} {held:Bool} {t:TypeId} {v:Value} {dd:DataW H} {ps:List MemPlace}
theorem s0p (hk:G0l P 8 t=some (i3 (i3 (i3 (i3 (i3 (i3 (i3 (i3 (i3 [])))))))))) (h:DataW.Trod enc P w base spare held t v dd ps):∃x:T08,v=x.val∧lfI x:=by
 obtain⟨a,c,e,ha,h⟩:=nine (H0t hk h)
 obtain⟨b,c1,e1,hb,h⟩:=nine h
 obtain⟨d,c2,e2,hd,h⟩:=nine h
 rw[e1,e2,Q0n h,List.append_nil]at e
 exact⟨⟨a,b,d⟩,D0n e (by rintro⟨⟩),ha,hb,hd⟩
end
end Go.Proofs.YtfdaofhjkdabbaaGreat
namespace Go.Proofs.YtfdaofhjkdabbaaGreat
open Go Go.Vc Go.Proofs
open Go.Proofs.Tryz (prog)
def resD (f:F3) (m:Mk):Cq:=dotP (z0l m.p (g0k f (intQ m.i) (intQ m.j))) (z0l m.p (g0k f (intQ m.i) (intQ m.j)))
def resF (f:F3):Cq→List Mk→Cq
 | a,[]=>a
 | a,m::l=>resF f (if 0<(resD f m).cmp a then resD f m else a) l
def resE (f:F3) (ms:List Mk):Int:=if ms.length=0∨32<ms.length then 4 else if f.real=true then(if ms.all (fun m=>m.p.real)=true then 0 else 1)else 1
def resV (f:F3) (ms:List Mk):Cq:=if resE f ms=0 then resF f Cq.zero ms else Cq.zero
theorem D0f (f:F3) (m:Mk):∀(l:List Mk) (a:Cq),resF f a (l++[m])=if 0<(resD f m).cmp (resF f a l)then resD f m else resF f a l
 | [],_=>rfl
 | _::l,_=>D0f f m l _
theorem t0p {f:F3} {m:Mk} (hf:f.szle 64) (hm:m.p.szle 64) (hi:m.in64):(resD f m).sz≤4000:=by
 have h1:=l0i hf (Z05 hi.1) (Z05 hi.2)
 have h2:=A0l hm h1
 exact Nat.le_trans (L0v h2 h2) (by omega)
theorem S0l {f:F3} (hf:f.szle 64):∀(l:List Mk) (a:Cq),a.sz≤4000→(∀m∈l,m.p.szle 64∧m.in64)→(resF f a l).sz≤4000
 | [],_,ha,_=>ha
 | m::l,a,ha,h=>by
   unfold resF
   refine S0l hf l _ ?_ (fun m' hm=>h m' (by simp[hm]))
   split
   · exact t0p hf (h m (by simp)).1 (h m (by simp)).2
   · exact ha
theorem B0i {ms:List Mk} {t:Nat} {m:Mk} (h:ms[t]?=some m):ms.take (t+1)=ms.take t++[m]:=by rw[List.take_add_one,h]; rfl
theorem T0l {V:View} {s:o01} {q:Sl} {f:F3} {ms:List Mk} (h:K07 V s f) (hm:d0d V q ms) (hf:f.szle 64) (hz:∀m∈ms,m.p.szle 64) (hi:∀m∈ms,m.in64) :
 a00 prog L0h #[s.val,q.v] V fun v V'=>∃r:NumV,v = .tuple #[r.val,.int .i64 (resE f ms)]∧c01 V' r (resV f ms):=by
 have hl:q.len=ms.length:=hm.len
 have nil:∀(e:Int) (V':View),resE f ms=e→e≠0→∃r:NumV,Value.tuple #[zN.val,.int .i64 e]=Value.tuple #[r.val,.int .i64 (resE f ms)]∧c01 V' r (resV f ms):=fun e V' he h0=>by
  unfold resV; rw[he,if_neg h0]; exact⟨_,rfl,c01.zero V'⟩
 refine W0g s q V _ (fun _ _ _=>1≤ms.length∧ms.length≤32)
  (fun _ x V'=>∃t:Nat,x.t26=t∧t≤ms.length∧(∀m∈ms.take t,m.p.real=true)∧c01 V' x.o6 (resF f Cq.zero (ms.take t))) (fun _ x _=>ms.length-x.t26.toNat) ?_
 rw[hl]
 refine⟨⟨fun c=>nil 4 V ?_ (by decide),fun c=>⟨fun c'=>nil 4 V ?_ (by decide),fun c' => ?_⟩⟩,?_⟩
 · unfold resE; rw[if_pos (.inl (by simpa using c))]
 · unfold resE; rw[if_pos (.inr (by simp at c'; omega))]
 · have c:ms.length≠0:=by simpa using c
   exact⟨by omega,by simp at c'; omega⟩
 rintro⟨o4⟩ V1 l1 ⟨n1,n2⟩
 have eE:resE f ms=if f.real=true then(if ms.all (fun m=>m.p.real)=true then 0 else 1)else 1:=by unfold resE; rw[if_neg (by omega)]
 refine(Y0b (h.le l1)).mono fun v V2 l2 hv=>⟨_,hv,fun c => ?_,fun c=>⟨?_,?_⟩⟩
 · have c:f.real=false:=by simpa using c
   exact nil 1 V2 (by rw[eE,c]; rfl) (by decide)
 · exact⟨0,rfl,by omega,by simp,c01.zero V2⟩
 have c:f.real=true:=by simpa using c
 rw[if_pos c]at eE
 have L2:=View.le_trans l1 l2
 rintro⟨t26,o4',o6⟩ V3 l3 ⟨t,et,ht,hr,h6⟩
 dsimp only at et h6 ⊢
 subst et
 have L3:=View.le_trans L2 l3
 refine⟨fun hlt => ?_,fun hge => ?_⟩
 · have hk:t<ms.length:=by simp at hlt; omega
   have ek:ms[t]?=some ms[t]:=List.getElem?_eq_getElem hk
   have hmem:=List.getElem_mem hk
   obtain⟨g,x,⟨y,rfl,hy⟩,_,hh,hs⟩:=t00.get (hm.le L3) (t:=(t:Int)) (by omega) (z:=ms[t]) (by rw[Int.toNat_natCast]; exact ek)
   rw[hl]at g
   have tk:=B0i ek
   generalize ms[t]=m at *
   have zm:=hz m hmem
   have zi:=hi m hmem
   refine⟨g,y,hh,hs,fun b1 V4 l4 _ hb1=>(H0n (hy.p.le l4) hb1).mono fun v V5 l5 hv=>⟨_,hv,fun c => ?_,fun c => ?_⟩⟩
   · have c:m.p.real=false:=by simpa using c
     refine nil 1 V5 ?_ (by decide)
     rw[eE,if_neg]
     intro g
     rw[List.all_eq_true]at g
     rw[g m hmem]at c
     exact absurd c (by decide)
   have c:m.p.real=true:=by simpa using c
   have L5:=View.le_trans l4 l5
   rw[hy.i,hy.j]
   refine(l0b zi.1.1 zi.1.2).mono fun v V6 l6 ⟨r3,hv,h3⟩=>⟨r3,hv,(l0b zi.2.1 zi.2.2).mono fun v V7 l7 ⟨r4,hv,h4⟩=>⟨r4,hv,?_⟩⟩
   have h3:c01 V6 r3 (intQ m.i):=h3
   have h4:c01 V7 r4 (intQ m.j):=h4
   have L7:=View.le_trans L5 (View.le_trans l6 l7)
   refine(X0r (h.le (View.le_trans L3 L7)) (h3.le l7) h4 hf (Z05 zi.1) (Z05 zi.2) (by omega)).mono fun v V8 l8 ⟨r5,hv,h5⟩=>⟨r5,hv,?_⟩
   have zp:=l0i hf (Z05 zi.1) (Z05 zi.2)
   refine(P0t (hy.p.le (View.le_trans L7 l8)) h5 zm zp (by omega)).mono fun v V9 l9 ⟨r6,hv,h6'⟩=>⟨r6,hv,?_⟩
   have zl:=A0l zm zp
   refine(k0q h6' h6' zl zl (by omega)).mono fun v V10 l10 ⟨r7,hv,h7⟩=>⟨r7,hv,?_⟩
   have L10:=View.le_trans L7 (View.le_trans l8 (View.le_trans l9 l10))
   have h7:c01 V10 r7 (resD f m):=h7
   have zd:=t0p hf zm zi
   have zr:(resF f Cq.zero (ms.take t)).sz≤4000:=S0l hf _ _ (Nat.le_trans c08 (by omega)) (fun m' h'=>⟨hz m' (List.mem_of_mem_take h'),hi m' (List.mem_of_mem_take h')⟩)
   have real':∀m'∈ms.take (t+1),m'.p.real=true:=fun m' h'=>by
    rw[tk]at h'
    rcases List.mem_append.1 h' with h'|h'
    · exact hr m' h'
    · rw[show m'=m by simpa using h']; exact c
   rw[i64w (by omega) (by omega)]
   refine(n0a h7 (h6.le L10) (by omega) (by omega)).mono fun v V11 l11 hv=>⟨_,hv,fun d=>⟨⟨t+1,by omega,by omega,real',?_⟩,by omega⟩,fun d=>⟨⟨t+1,by omega,by omega,real',?_⟩,by omega⟩⟩
   · rw[tk,D0f,if_pos (of_decide_eq_true d)]; exact h7.le l11
   · rw[tk,D0f,if_neg (of_decide_eq_false d)]; exact h6.le (View.le_trans L10 l11)
 · have e:t=ms.length:=by simp at hge; omega
   subst e
   rw[List.take_length]at hr h6
   have e0:resE f ms=0:=by rw[eE,if_pos (by rw[List.all_eq_true]; exact hr)]
   unfold resV
   rw[e0]
   exact⟨o6,rfl,h6⟩
structure b0x (V:View) (s:u0a) (m:Mk):Prop where
 i:s.i=m.i
 j:s.j=m.j
 p:X09 V s.at_ m.p
def O0g (V:View) (x:List Value) (m:Mk):Prop:=∃s:u0a,x=s.val.cells.toList∧b0x V s m
theorem O0g.le {V V':View} (hle:V.le V') (x:List Value) (m:Mk) (h:O0g V x m):O0g V' x m:=by
 obtain⟨s,e,h1,h2,h3⟩:=h; exact⟨s,e,h1,h2,h3.le hle⟩
def P0g (V:View) (s:Sl) (ms:List Mk):Prop:=t00 17 O0g V s ms
theorem P0g.le {V V':View} (hle:V.le V') {s:Sl} {ms:List Mk} (h:P0g V s ms):P0g V' s ms:=t00.le (O0g.le hle) hle h
theorem a0s (s:u0a):(∀(j:Nat) v,s.at_.val.cells.toList[j]?=some v→s.val.cells.toList[2+j]?=some v)∧s.val.cells.toList[0]?=some (.int .i64 s.i)∧s.val.cells.toList[1]?=some (.int .i64 s.j):=by
 have e:s.val.cells.toList = .int .i64 s.i :: .int .i64 s.j::s.at_.val.cells.toList:=rfl
 refine⟨fun j v hj => ?_,by rw[e]; rfl,by rw[e]; rfl⟩
 rw[e,show 2+j=j+1+1 by omega,List.getElem?_cons_succ,List.getElem?_cons_succ]; exact hj
theorem S0n {V:View} {p:Option Addr} {l:List Value} {k:Nat} {v:Value} (h:V.has p l) (hk:l[k]?=some v):V.load (Option.map (fun q=>Addr.add q k) p)=some v:=h k v hk
theorem m0g {V:View} {s:Sl} {ms:List Mk} (h:P0g V s ms) {t:Nat} {m:Mk} (hk:ms[t]?=some m) :
 ((0:Int)≤(t:Int)∧(t:Int)<(s.len:Nat)∧Option.isSome s.a=true)∧Option.isSome (Option.map (fun q=>Addr.add q (Int.toNat (t:Int)*17)) s.a)=true ∧
 ∃y:u0a,b0x V y m ∧
  (V.has (Option.map (fun q=>Addr.add q 2) (Option.map (fun q=>Addr.add q (Int.toNat (t:Int)*17)) s.a)) y.at_.val.cells.toList∧Option.isSome (Option.map (fun q=>Addr.add q 2) (Option.map (fun q=>Addr.add q (Int.toNat (t:Int)*17)) s.a))=true) ∧
  V.load (Option.map (fun q=>Addr.add q 0) (Option.map (fun q=>Addr.add q (Int.toNat (t:Int)*17)) s.a))=some (.int .i64 y.i) ∧
  V.load (Option.map (fun q=>Addr.add q 1) (Option.map (fun q=>Addr.add q (Int.toNat (t:Int)*17)) s.a))=some (.int .i64 y.j):=by
 obtain⟨g,x,⟨y,rfl,hy⟩,_,hh,hs⟩:=t00.get h (t:=(t:Int)) (by omega) (z:=m) (by rw[Int.toNat_natCast]; exact hk)
 obtain⟨m1,m2,m3⟩:=a0s y
 exact⟨g,hs,y,hy,⟨B0d hh m1,by rw[Option.isSome_map]; exact hs⟩,S0n hh m2,S0n hh m3⟩
def g0d (n:Int) (ms:List Mk):Int:=if(ms.length:Int)<n∨32<ms.length then 4 else if ms.all (fun m=>m.p.real)=true then 0 else 1
theorem E0f {V:View} {q:Sl} {ms:List Mk} {n:Int} (h:P0g V q ms) {S:Nat} (hz:∀m∈ms,m.p.szle S) (hS:S≤2^30) :
 a00 prog z0c #[q.v,.int .i64 n] V fun v _=>∃r:Int,v = .int .i64 r∧r=g0d n ms:=by
 have hl:q.len=ms.length:=h.len
 refine m0c q n V _ (fun _ _ _=>n≤(ms.length:Int)∧ms.length≤32) (fun _ x _=>∃t:Nat,x.t5=t∧t≤ms.length∧∀m∈ms.take t,m.p.real=true) (fun _ x _=>ms.length-x.t5.toNat) ?_
 rw[hl]
 refine⟨⟨fun c=>⟨_,rfl,?_⟩,fun c=>⟨fun c'=>⟨_,rfl,?_⟩,fun c' => ?_⟩⟩,?_⟩
 · unfold g0d; rw[if_pos (.inl (of_decide_eq_true c))]
 · unfold g0d; rw[if_pos (.inr (by simp at c'; omega))]
 · have c:=of_decide_eq_false c
   exact⟨by omega,by simp at c'; omega⟩
 rintro⟨u⟩ V1 l1 ⟨n1,n2⟩
 have eE:g0d n ms=if ms.all (fun m=>m.p.real)=true then 0 else 1:=by unfold g0d; rw[if_neg (by omega)]
 refine⟨⟨0,rfl,by omega,by simp⟩,?_⟩
 rintro⟨t5⟩ V2 l2 ⟨t,et,ht,hr⟩
 dsimp only at et ⊢
 subst et
 have L2:=View.le_trans l1 l2
 refine⟨fun hlt => ?_,fun hge=>⟨_,rfl,?_⟩⟩
 · have hk:t<ms.length:=by simp at hlt; omega
   have ek:ms[t]?=some ms[t]:=List.getElem?_eq_getElem hk
   have hmem:=List.getElem_mem hk
   obtain⟨g,hs,y,hy,⟨h1,h2⟩,_⟩:=m0g (h.le L2) ek
   rw[hl]at g
   have tk:=B0i ek
   generalize ms[t]=m at *
   refine⟨g,hs,y.at_,h1,h2,(y09 hy.p (hz m hmem) (by omega)).mono fun v V3 l3 hv=>⟨_,hv,fun c=>⟨_,rfl,?_⟩,fun c => ?_⟩⟩
   · have c:m.p.real=false:=by simpa using c
     rw[eE,if_neg]
     intro g
     rw[List.all_eq_true]at g
     rw[g m hmem]at c
     exact absurd c (by decide)
   · have c:m.p.real=true:=by simpa using c
     rw[i64w (by omega) (by omega)]
     refine⟨⟨t+1,by omega,by omega,fun m' h' => ?_⟩,by omega⟩
     rw[tk]at h'
     rcases List.mem_append.1 h' with h'|h'
     · exact hr m' h'
     · rw[show m'=m by simpa using h']; exact c
 · have e:t=ms.length:=by simp at hge; omega
   subst e
   rw[List.take_length]at hr
   rw[eE,if_pos (by rw[List.all_eq_true]; exact hr)]
theorem T0n {f:F3} {m:Mk} (hf:f.real=true) (hm:m.p.real=true):(resD f m).im=0:=by
 unfold F3.real at hf
 simp only[Bool.and_eq_true]at hf
 obtain⟨h1,h2,h3⟩:=hf
 unfold resD g0k
 rw[I0d hm,I0d h1,I0d h2,I0d h3,show intQ m.i=rq (m.i:Rat)from rfl,show intQ m.j=rq (m.j:Rat)from rfl]
 simp only[x0t,K0w,p0x]
 rfl
theorem U0n {f:F3} (hf:f.real=true):∀(l:List Mk) (a:Cq),a.im=0→(∀m∈l,m.p.real=true)→(resF f a l).im=0
 | [],_,ha,_=>ha
 | m::l,a,ha,h=>by
   unfold resF
   refine U0n hf l _ ?_ (fun m' hm=>h m' (by simp[hm]))
   split
   · exact T0n hf (h m (by simp))
   · exact ha
theorem g0h {V:View} {s:o01} {q:Sl} {f:F3} {ms:List Mk} (h:d0e V s f) (hm:P0g V q ms) (hf:f.szle 64) (hz:∀m∈ms,m.p.szle 64) (hi:∀m∈ms,m.in64) :
 a00 prog Q0a #[s.val,q.v] V fun v V'=>∃r:NumV,v = .tuple #[r.val,.int .i64 (resE f ms)]∧QAt V' r (resV f ms):=by
 have hl:q.len=ms.length:=hm.len
 have nil:∀(e:Int) (V':View) (r:NumV),QAt V' r Cq.zero→resE f ms=e→e≠0→∃r':NumV,Value.tuple #[r.val,.int .i64 e]=Value.tuple #[r'.val,.int .i64 (resE f ms)]∧QAt V' r' (resV f ms):=fun e V' r hr he h0=>by
  unfold resV; rw[he,if_neg h0]; exact⟨r,rfl,hr⟩
 refine A0a s q V _ (fun _ _ _=>1≤ms.length∧ms.length≤32)
  (fun _ x V'=>∃t:Nat,x.t8=t∧t≤ms.length∧QAt V' x.o7 (resF f Cq.zero (ms.take t))) (fun _ x _=>ms.length-x.t8.toNat) ?_
 rw[hl]
 refine⟨⟨fun c=>l0g.mono fun v V2 _ ⟨r1,hv,h1⟩=>⟨r1,hv,nil 4 V2 r1 h1 ?_ (by decide)⟩,fun c=>⟨fun c'=>l0g.mono fun v V2 _ ⟨r1,hv,h1⟩=>⟨r1,hv,nil 4 V2 r1 h1 ?_ (by decide)⟩,fun c' => ?_⟩⟩,?_⟩
 · unfold resE; rw[if_pos (.inl (by simp at c; omega))]
 · unfold resE; rw[if_pos (.inr (by simp at c'; omega))]
 · exact⟨by simp at c; omega,by simp at c'; omega⟩
 rintro⟨o4⟩ V1 l1 ⟨n1,n2⟩
 have eE:resE f ms=if f.real=true then(if ms.all (fun m=>m.p.real)=true then 0 else 1)else 1:=by unfold resE; rw[if_neg (by omega)]
 refine(O0b (h.le l1) hf (by omega)).mono fun v V4 l4 hv=>⟨_,hv,fun c => ?_,fun c => ?_⟩
 · have c:f.real=false:=by simpa using c
   exact l0g.mono fun v V2 _ ⟨r1,hv,h1⟩=>⟨r1,hv,nil 1 V2 r1 h1 (by rw[eE,c]; rfl) (by decide)⟩
 have c:f.real=true:=by simpa using c
 rw[if_pos c]at eE
 have L4:=View.le_trans l1 l4
 refine(E0f (hm.le L4) hz (by omega)).mono fun v V6 l6 ⟨r5,hv,e5⟩=>⟨r5,hv,fun d => ?_,fun d => ?_⟩
 all_goals have e6:g0d 1 ms=resE f ms:=by unfold g0d; rw[if_neg (by omega),eE]
 · have d:r5≠0:=by simpa using d
   exact l0g.mono fun v V2 _ ⟨r1,hv,h1⟩=>⟨r1,hv,nil r5 V2 r1 h1 (by rw[e5,e6]) d⟩
 have d:r5=0:=by simpa using d
 have e0:resE f ms=0:=by rw[←e6,←e5,d]
 have hr:∀m∈ms,m.p.real=true:=by
  rw[e0]at eE
  by_cases g:ms.all (fun m=>m.p.real)=true
  · exact fun m h'=>List.all_eq_true.1 g m h'
  · rw[if_neg g]at eE; exact absurd eE (by decide)
 refine l0g.mono fun v V8 l8 ⟨r7,hv,h7⟩=>⟨r7,hv,⟨0,rfl,by omega,h7⟩,?_⟩
 have L8:=View.le_trans L4 (View.le_trans l6 l8)
 rintro⟨t8,o4',o7⟩ V9 l9 ⟨t,et,ht,h6⟩
 dsimp only at et h6 ⊢
 subst et
 have L9:=View.le_trans L8 l9
 refine⟨fun hlt => ?_,fun hge => ?_⟩
 · have hk:t<ms.length:=by simp at hlt; omega
   have ek:ms[t]?=some ms[t]:=List.getElem?_eq_getElem hk
   have hmem:=List.getElem_mem hk
   obtain⟨g,hs,y,hy,⟨k1,k2⟩,k3,k4⟩:=m0g (hm.le L9) ek
   rw[hl]at g
   have tk:=B0i ek
   generalize ms[t]=m at *
   have zm:=hz m hmem
   have zi:=hi m hmem
   refine⟨g,hs,y.at_,k1,k2,g,hs,y.i,k3,g,hs,y.j,k4,?_⟩
   rw[hy.i,hy.j]
   refine(B04 zi.1.1 zi.1.2).mono fun v V10 l10 ⟨r8,hv,h8⟩=>⟨r8,hv,(B04 zi.2.1 zi.2.2).mono fun v V11 l11 ⟨r9,hv,h9⟩=>⟨r9,hv,?_⟩⟩
   have h8:QAt V10 r8 (intQ m.i):=h8
   have h9:QAt V11 r9 (intQ m.j):=h9
   have La:=View.le_trans l10 l11
   refine(O0l (h.le (View.le_trans L9 La)) (h8.le l11) h9 hf (Z05 zi.1) (Z05 zi.2) (by omega)).mono fun v V12 l12 ⟨r10,hv,h10⟩=>⟨r10,hv,?_⟩
   have zp:=l0i hf (Z05 zi.1) (Z05 zi.2)
   refine(f0h (hy.p.le (View.le_trans La l12)) h10 zm zp (by omega)).mono fun v V13 l13 ⟨r11,hv,h11⟩=>⟨r11,hv,?_⟩
   have h11:QAt V13 r11 (resD f m):=h11
   have zd:=t0p hf zm zi
   have zr:(resF f Cq.zero (ms.take t)).sz≤4000:=S0l hf _ _ (Nat.le_trans c08 (by omega)) (fun m' h'=>⟨hz m' (List.mem_of_mem_take h'),hi m' (List.mem_of_mem_take h')⟩)
   have rd:=T0n c (hr m hmem)
   have rr:(resF f Cq.zero (ms.take t)).im=0:=U0n c _ _ rfl (fun m' h'=>hr m' (List.mem_of_mem_take h'))
   have Lb:=View.le_trans La (View.le_trans l12 l13)
   rw[i64w (by omega) (by omega)]
   refine(M0l (u0v h11 rd) (u0v (h6.le Lb) rr) (Nat.le_trans (Y0w zd rd) (by omega)) (Nat.le_trans (Y0w zr rr) (by omega))).mono fun v V14 l14 hv=>⟨_,hv,fun d=>⟨⟨t+1,by omega,by omega,?_⟩,by omega⟩,fun d=>⟨⟨t+1,by omega,by omega,?_⟩,by omega⟩⟩
   · rw[tk,D0f,t0h rd rr,if_pos (of_decide_eq_true d)]; exact h11.le l14
   · rw[tk,D0f,t0h rd rr,if_neg (of_decide_eq_false d)]; exact h6.le (View.le_trans Lb l14)
 · have e:t=ms.length:=by simp at hge; omega
   subst e
   rw[List.take_length]at h6
   unfold resV
   rw[e0]
   exact⟨o7,rfl,h6⟩
def lmC (_:View) (x:List Value) (k:O0a):Prop:=x=k.val.cells.toList
def lmM (k:O0a):Mk:=⟨k.i,k.j,arrP k.at_⟩
def lmI (k:O0a):Prop:=(lmM k).in64∧arrI k.at_
theorem z0x {ks:List O0a} (h:∀k∈ks,lmI k):∀m∈ks.map lmM,m.p.szle 64∧m.in64:=by
 intro m hm
 obtain⟨k,hk,rfl⟩:=List.mem_map.1 hm
 exact⟨Q0l (h k hk).2,(h k hk).1⟩
theorem o0q (i j:Int) (r:I00):∀v∈(u0a.mk i j r).val.cells.toList,Value.oneCell' v=true:=by
 intro v hv
 rcases List.mem_cons.1 (show v∈Value.int .i64 i :: .int .i64 j::(r.x.val.cells.toList++(r.y.val.cells.toList++r.z.val.cells.toList))from hv)with rfl|hv
 · rfl
 rcases List.mem_cons.1 hv with rfl|hv
 · rfl
 rcases List.mem_append.1 hv with hv|hv
 · exact Q09 r.x v hv
 rcases List.mem_append.1 hv with hv|hv
 · exact Q09 r.y v hv
 · exact Q09 r.z v hv
theorem U0l {V:View} {s:Sl} {ks:List O0a} (h:t00 11 lmC V s ks) (hi:∀k∈ks,lmI k) (hn:ks.length≤2^20) :
 a00 prog y0c #[s.v] V fun v V'=>∃r1 r2:Sl,v = .tuple #[r1.v,r2.v]∧d0d V' r1 (ks.map lmM)∧P0g V' r2 (ks.map lmM):=by
 have hl:s.len=ks.length:=h.len
 refine n0c s V _ (fun _ x V'=>∃(t:Nat) (l4 l5:List Value),x.t12=t∧t≤ks.length∧L03 17 x.t4l x.t4c x.o4 l4∧x.t4l=t∧x01 17 H0l V' l4 ((ks.take t).map lmM)∧L03 17 x.t5l x.t5c x.o5 l5∧x.t5l=t∧x01 17 O0g V' l5 ((ks.take t).map lmM))
  (fun _ x _=>ks.length-x.t12.toNat) ⟨⟨0,[],[],rfl,by omega,L03.nil,rfl,rfl,L03.nil,rfl,rfl⟩,?_⟩
 rintro⟨t4l,t4c,t5l,t5c,t12,o4,o5⟩ V1 l1 ⟨t,l4,l5,et,ht,hL4,e4,hC4,hL5,e5,hC5⟩
 dsimp only at et hL4 e4 hC4 hL5 e5 hC5 ⊢
 subst et; subst e4
 obtain rfl:t5l=t4l:=e5
 rw[hl]
 refine⟨fun hlt => ?_,fun hge => ?_⟩
 · have hk:t5l<ks.length:=by simp at hlt; omega
   have ek:ks[t5l]?=some ks[t5l]:=List.getElem?_eq_getElem hk
   have hi1:=hi _ (List.getElem_mem hk)
   obtain⟨g,x,hx,_,hh,hs⟩:=t00.get (t00.le (V:=V) (V':=V1) (P:=lmC) (fun _ _ e=>e) l1 h) (t:=(t5l:Int)) (by omega) (z:=ks[t5l]) (by rw[Int.toNat_natCast]; exact ek)
   rw[hl]at g
   have tm:=a0v (f:=lmM) ek
   generalize ks[t5l]=k at *
   subst hx
   refine⟨g,k,hh,hs,(p0a hi1.2).mono fun v V2 l2 ⟨r1,r2,hv,a1,a2⟩=>⟨r1,r2,hv,fun b1 V3 l3 _ hb1 => ?_⟩⟩
   refine⟨l4,(u0a.mk k.i k.j r1).val.cells.toList,hL4,a0d hb1,rfl,o0q _ _ _,by unfold maxLen; omega,by omega,fun c1 l3' hl3 b2 V4 l4' _ hb2 => ?_⟩
   refine⟨l5,(u0a.mk k.i k.j r2).val.cells.toList,hL5,a0d hb2,rfl,o0q _ _ _,by unfold maxLen; omega,by omega,fun c2 l6' hl6 => ?_⟩
   rw[i64w (by omega) (by omega)]
   have L24:=View.le_trans l3 l4'
   have L14:=View.le_trans l2 L24
   refine⟨⟨t5l+1,_,_,by omega,by omega,hl3,rfl,?_,hl6,rfl,?_⟩,by omega⟩
   · rw[tm]
     exact(hC4.imp (H0l.le L14)).append (x01.one rfl ⟨_,rfl,rfl,rfl,a1.le L24⟩)
   · rw[tm]
     exact(hC5.imp (O0g.le L14)).append (x01.one rfl ⟨_,rfl,rfl,rfl,a2.le L24⟩)
 · have e:t5l=ks.length:=by simp at hge; omega
   subst e
   rw[List.take_length]at hC4 hC5
   intro b3 V8 l8 hb3 b4 V9 l9 hb4
   refine⟨⟨lstA b3 t4c,_,t4c⟩,⟨lstA b4 t5c,_,t5c⟩,rfl,?_,?_⟩
   · exact d0d.le l9 (z09 hL4 hb3 (hC4.imp (H0l.le l8)) (by rw[List.length_map]))
   · exact z09 hL5 hb4 (hC5.imp (O0g.le (View.le_trans l8 l9))) (by rw[List.length_map])
end Go.Proofs.YtfdaofhjkdabbaaGreat
namespace Go.Proofs.YtfdaofhjkdabbaaGreat
open Go Go.Vc Go.Proofs Go.ChangeShapes Go.RowKit
theorem A0x {fs:List FK} {cs:List Value} (h:q0c (.int .i64 :: .int .i64::fs) cs) :
 ∃(i j:Int) (cs':List Value),cs = .int .i64 i :: .int .i64 j::cs'∧((-9223372036854775808≤i∧i≤9223372036854775807)∧(-9223372036854775808≤j∧j≤9223372036854775807))∧q0c fs cs':=by
 cases cs with
 | nil=>exact h.elim
 | cons x cs =>
   obtain⟨⟨a,e1,w1⟩,h⟩:=h
   cases cs with
   | nil=>exact h.elim
   | cons y cs =>
     obtain⟨⟨b,e2,w2⟩,h⟩:=h
     exact⟨a,b,cs,by rw[e1,e2],⟨bounds_i64 w1,bounds_i64 w2⟩,h⟩
section
variable {H:Type} {enc:TypeId×Value→H} {P:Program} {w:World} {base:Nat} {spare:Nat→Bool} {held:Bool} {t:TypeId} {v:Value} {dd:DataW H} {ps:List MemPlace}
theorem u0p {e:TypeId} (ht:P.underlying t=some (.slice e)) (hc:P.cellsOf e=11) (hk:G0l P 8 e=some (.int .i64 :: .int .i64::i3 (i3 (i3 [])))) (hv:∃a l c,v = .slice a l c) (h:DataW.Trod enc P w base spare held t v dd ps) :
 ∃(s:Sl) (ks:List O0a),v=s.v∧t00 11 lmC (M07 w) s ks∧ks.length≤maxLen∧∀k∈ks,lmI k:=by
 obtain⟨fuel,h⟩:=h
 obtain⟨s,zs,e1,h1,h2,h3⟩:=I0t (α:=O0a) ht hc lmI lmC (fun {fuel cs x} g=>by
  obtain⟨i,j,c0,e0,hij,h⟩:=A0x (E0d 8 fuel e _ cs x hk g)
  obtain⟨a,c1,e1,ha,h⟩:=nine h
  exact⟨⟨i,j,a⟩,⟨hij,ha⟩,by rw[e0,e1,Q0n h]; simp only[List.append_nil]; rfl⟩) h
 exact⟨s,zs,F0n e1 hv,h1,h2,h3⟩
end
end Go.Proofs.YtfdaofhjkdabbaaGreat
namespace Go.Proofs.YtfdaofhjkdabbaaGreat
open Go Go.Vc Go.Proofs
theorem C0i (S:Nat) (h:2≤S):P3.zero.szle S:=by
 have:Cq.zero.sz≤2:=by decide +kernel
 exact⟨by show Cq.zero.sz≤S; omega,by show Cq.zero.sz≤S; omega,by show Cq.zero.sz≤S; omega⟩
theorem b0s (S:Nat) (h:2≤S):F3.zero.szle S:=⟨C0i S h,C0i S h,C0i S h⟩
theorem F0f {V:View} {p:Sl} {n w:Nat} {A:Nat→Nat→Cq} (h:W05 5 qC V p (matL n w A)) {t:Nat} (ht:t<n) :
 ((0:Int)≤(t:Int)∧(t:Int)<(p.len:Nat)∧Option.isSome p.a=true)∧∃s:Sl,V.load (Option.map (fun q=>Addr.add q (Int.toNat (t:Int)*1)) p.a)=some s.v∧t00 5 qC V s (rowL w (A t)) :=
 h.row (t:=(t:Int)) (by omega) (row:=rowL w (A t)) (by rw[Int.toNat_natCast]; exact t08 ht A)
theorem n0g {V:View} {p:Sl} {n w:Nat} {A:Nat→Nat→Cq} (h:W05 5 qC V p (matL n w A)) (hn:0<n):a00 Tryz.prog W0i #[p.v] V fun v _=>v = .int .i64 (w:Int):=by
 have hl:p.len=n:=by have:=h.len; rw[D01]at this; exact this
 refine c0i p V _ ⟨fun c => ?_,fun _ => ?_⟩
 · rw[hl]at c; simp at c; omega
 · obtain⟨g,s,h1,h2⟩:=F0f h hn
   refine⟨g,s,h1,?_⟩
   rw[h2.len,n00]
theorem D0i {V:View} {p:Sl} {n w:Nat} {A:Nat→Nat→Cq} (h:W05 5 qC V p (matL n w A)) (hn:0<n) (hn2:n≤32) (hw:w≤32):a00 Tryz.prog E0m #[p.v] V fun v _=>v = .bool true:=by
 have hl:p.len=n:=by have:=h.len; rw[D01]at this; exact this
 refine l0l p V _ (fun _ x _=>∃t:Nat,x.t3=t∧t≤n) (fun _ x _=>n-x.t3.toNat) ?_
 refine⟨fun c => ?_,fun _=>⟨⟨0,rfl,by omega⟩,?_⟩⟩
 · rw[hl]at c; simp at c; omega
 rintro⟨t3⟩ V1 l1 ⟨t,et,ht⟩
 dsimp only at et ⊢
 subst et
 refine⟨fun hlt => ?_,fun _=>rfl⟩
 have hk:t<n:=by rw[hl]at hlt; simp at hlt; omega
 have h1:=W05.le qC.le l1 h
 obtain⟨g,s,k1,k2⟩:=F0f h1 hk
 obtain⟨g0,s0,j1,j2⟩:=F0f h1 hn
 have e1:s.len=w:=by rw[k2.len,n00]
 have e2:s0.len=w:=by rw[j2.len,n00]
 refine⟨g,s,k1,g0,s0,j1,fun c => ?_,fun _=>⟨g,s,k1,fun c => ?_,fun _ => ?_⟩⟩
 · rw[e1,e2]at c; simp at c
 · rw[e1]at c; simp at c; omega
 · rw[i64w (by omega) (by omega)]
   exact⟨⟨t+1,by omega,by omega⟩,by omega⟩
theorem i0h {V:View} {p:Sl} {n:Nat} {A:Nat→Nat→Cq} (h:W05 5 qC V p (matL n n A)) (hn:0<n) (hn2:n≤32):a00 Tryz.prog O0k #[p.v] V fun v _=>v = .bool true:=by
 have hl:p.len=n:=by have:=h.len; rw[D01]at this; exact this
 refine p0j p V _ ((D0i h hn hn2 hn2).mono fun v V1 l1 hv=>⟨_,hv,fun _ => ?_,fun c=>absurd c (by decide)⟩)
 refine(n0g (W05.le qC.le l1 h) hn).mono fun v V2 l2 hv=>⟨_,hv,?_⟩
 rw[hl]; simp
theorem B0x {V:View} {o:List Value} {row:List Cq} (h:x01 5 qC V o row):∀v∈o,Value.oneCell' v=true:=by
 induction row generalizing o with
 | nil=>rw[show o=[]from h]; simp
 | cons z zs ih =>
   obtain⟨x,o',e,hx,⟨r,er,_⟩,ht⟩:=h
   subst e; subst er
   intro v hv
   rw[List.mem_append]at hv
   rcases hv with hv|hv
   · exact Q09 r v hv
   · exact ih ht v hv
theorem y0j {V:View} {p:Sl} {n w:Nat} {A:Nat→Nat→Cq} (h:W05 5 qC V p (matL n w A)) (hn:n≤2^20) (hw:w≤2^20) :
 X07 Tryz.prog I0o #[p.v] (fun _=>none:View) V fun v m' V'=>∃r:Sl,v=r.v∧MatR 5 qC m' V' r n w A:=by
 have hl:p.len=n:=by have:=h.len; rw[D01]at this; exact this
 refine e0n (fun _=>none) p V _ (fun _ x V'=>∃t:Nat,x.t4=t∧t≤n∧x.o7.length=n∧d06 5 qC x.o0 V' x.o7 t (fun i=>rowL w (A i))) (fun _ x _=>n-x.t4.toNat) ?_
 rw[hl]
 refine⟨⟨by omega,by omega,by omega,by omega⟩,⟨0,rfl,by omega,by simp,I0i _ _ _ _⟩,?_⟩
 rintro⟨t4,o0,o7⟩ V1 l1 ⟨t,et,ht,hlen,hR⟩
 dsimp only at et hlen hR ⊢
 subst et
 refine⟨fun hlt => ?_,fun hge => ?_⟩
 · have hk:t<n:=by simp at hlt; omega
   intro b1 V2 l2 _ _
   have L2:=View.le_trans l1 l2
   obtain⟨g,s,k1,k2⟩:=F0f (W05.le qC.le L2 h) hk
   rw[hl]at g
   obtain⟨o,ho,hC⟩:=k2.cells
   have hol:=hC.length
   have es:s.len=w:=by rw[k2.len,n00]
   rw[n00]at hol
   refine⟨g,s,.inr k1,[],o,⟨Nat.le_refl _,fun h=>by simp at h⟩,.inl (by intro j v hj; simp at hj),by simp,.inr ho,by rw[hol,es],B0x hC,by unfold maxLen; omega,by omega,fun h1 h2=>by omega,fun a1 c1 m1 ha=>⟨⟨by omega,by omega⟩,by rw[hlen,Int.toNat_natCast]; omega,?_⟩⟩
   obtain⟨b,hr,hb2,hm,hm2⟩:=o0k hC rfl (by rw[n00]; exact es) ha
   rw[i64w (by omega) (by omega)]
   refine⟨⟨t+1,by omega,by omega,by simp[hlen],?_⟩,by omega⟩
   have:=(hR.le qC.le l2).push (by omega) hr hb2 (fun i hi=>by
    rcases hi with hi|hi
    · exact hm i hi
    · rw[hm2 hi])
   have e1:(0+Int.toNat (t:Int)*1)=t:=by omega
   rw[e1]
   refine this.congr fun i hi => ?_
   by_cases e:i=t
   · subst e; simp
   · simp[e]
 · have e:t=n:=by simp at hge; omega
   subst e
   intro b3 hb3 hb4
   rw[Int.toNat_natCast]
   exact⟨_,rfl,hR.mat hlen hb3⟩
theorem a0u {n:Nat} {A:Nat→Nat→Cq} {b:Nat→Cq} {i k:Nat} (h:k<n):augN n A b i k=A i k:=by unfold augN W07; rw[if_pos h]
theorem w0v {n:Nat} {A:Nat→Nat→Cq} {b:Nat→Cq} {i:Nat}:augN n A b i n=b i:=by unfold augN W07; rw[if_neg (Nat.lt_irrefl _)]
def Bsz (n T k:Nat) (B:Nat→Nat→Cq):Prop:=∀i j,i<n→j<n+1→(B i j).sz+2≤T*6^k
theorem b0w {x y z u:Cq} {s:Nat} (hx:x.sz+2≤s) (hy:y.sz+2≤s) (hz:z.sz+2≤s) (hu:u.sz+2≤s):(x-y.div z*u).sz+2≤s*6:=by
 have h1:=l0k (z:=y) (w:=z) (S:=s-2) (by omega) (by omega)
 have h2:=m01 (y.div z) u
 have h3:=O08 x (y.div z*u)
 omega
theorem W0n {k n:Nat} (h:k≤n) (T:Nat):T*6^k≤T*6^n:=Nat.mul_le_mul_left _ (Nat.pow_le_pow_right (by omega) h)
theorem Bsz.swap {n T k c p:Nat} {B:Nat→Nat→Cq} (h:Bsz n T k B) (hc:c<n) (hp:p<n):Bsz n T k (K08 B c p):=by
 intro i j hi hj
 unfold K08
 split
 · exact h p j hp hj
 · split
   · exact h c j hc hj
   · exact h i j hi hj
theorem Bsz.col {n T k R:Nat} {B:Nat→Nat→Cq} (h:Bsz n T k B) (hk:k<n):Bsz n T (k+1) (jcol (n+1) B k R):=by
 intro i j hi hj
 have e:T*6^(k+1)=T*6^k*6:=by rw[Nat.pow_succ,←Nat.mul_assoc]
 rw[e]
 have h0:=h i j hi hj
 unfold jcol
 split
 · exact b0w h0 (h i k hi (by omega)) (h k k hk (by omega)) (h k j hk hj)
 · omega
theorem P0b {m V:View} {p:Sl} {n w:Nat} {A:Nat→Nat→Cq} (h:MatR 5 qC m V p n w A) {i k:Nat} (hi:i<n) (hk:k<w) {s:Sl} (hs:m.load (Option.map (fun q=>Addr.add q (i*1)) p.a)=some s.v) :
 s.len=w∧Option.isSome s.a=true∧∃y:NumV,QAt V y (A i k)∧has2 m V (Option.map (fun q=>Addr.add q (k*5)) s.a) y.val.cells.toList∧Option.isSome (Option.map (fun q=>Addr.add q (k*5)) s.a)=true:=by
 obtain⟨_,s',h1,h2,_,h4,_,h6,_⟩:=h.row hi
 rw[h1]at hs
 obtain rfl:=H0d (Option.some.inj hs)
 obtain⟨x,⟨y,rfl,hy⟩,_,hh,hs2⟩:=h6 k hk
 exact⟨h2,h4 (by omega),y,hy,hh,hs2⟩
set_option maxHeartbeats 4000000 in
theorem E0i {V:View} {p q:Sl} {n T:Nat} {A:Nat→Nat→Cq} {b:Nat→Cq} (h:W05 5 qC V p (matL n n A)) (hb:QsAt V q (rowL n b)) (n0:0<n) (hn:n≤32) (hA:Bsz n T 0 (augN n A b)) (hT:T*6^n≤2^34) :
 a00 Tryz.prog z0m #[p.v,q.v] V fun v V'=>∃(r:Sl) (e:Int),v = .tuple #[r.v,.int .i64 e]∧(jord n (augN n A b)=none→e=6) ∧
  ∀B,jord n (augN n A b)=some B→e=0∧QsAt V' r (rowL n fun i=>(B i n).div (B i i)):=by
 have hl:p.len=n:=by have:=h.len; rw[D01]at this; exact this
 have hql:q.len=n:=by have:=hb.len; rw[n00]at this; exact this
 refine k0l p q V _ (fun _ _ _=>True)
  (fun c x V'=>∃t:Nat,x.t8=t∧t≤n∧MatG 5 qC x.o0 V' c.t7 n (fun i=>if i<t then n+1 else n) (augN n A b)) (fun _ x _=>n-x.t8.toNat)
  (fun c x V'=>∃(k:Nat) (B:Nat→Nat→Cq),x.t9=k∧k≤n∧MatR 5 qC x.o0 V' c.t7 n (n+1) B∧a0h n (n+1) (n-k) k B=jord n (augN n A b)∧Bsz n T k B) (fun _ x _=>n-x.t9.toNat)
  (fun c x V'=>∃(k:Nat) (B:Nat→Nat→Cq),c.t9=k∧k<n∧MatR 5 qC c.o0 V' c.t7 n (n+1) B∧a0h n (n+1) (n-k) k B=jord n (augN n A b)∧Bsz n T k B∧x.t10=(pivF numO B k n:Nat))
  (fun c x V'=>∃(k:Nat) (B:Nat→Nat→Cq) (t:Nat),c.t9=k∧k<n∧MatR 5 qC c.o0 V' c.t7 n (n+1) B∧a0h n (n+1) (n-k) k B=jord n (augN n A b)∧Bsz n T k B∧x.t10=t∧k≤t∧t≤n∧∀q,k≤q→q<t→numO.clr (B q k)=false) (fun _ x _=>n-x.t10.toNat)
  (fun c x V'=>∃(k:Nat) (B:Nat→Nat→Cq) (R:Nat),c.t9=k∧k<n∧x.t11=R∧R≤n∧MatR 5 qC x.o0 V' c.t7 n (n+1) (jcol (n+1) B k R)∧B k k≠Cq.zero∧a0h n (n+1) (n-(k+1)) (k+1) (jcol (n+1) B k n)=jord n (augN n A b)∧Bsz n T k B) (fun _ x _=>n-x.t11.toNat)
  (fun c x V'=>∃(k:Nat) (B:Nat→Nat→Cq) (R K:Nat),c.t9=k∧k<n∧c.t11=R∧R<n∧R≠k∧x.t14=K∧k≤K∧K≤n+1∧QAt V' c.o12 ((B R k).div (B k k)) ∧
    MatR 5 qC x.o0 V' c.t7 n (n+1) (jrow (jcol (n+1) B k R) k R ((B R k).div (B k k)) K)∧B k k≠Cq.zero∧a0h n (n+1) (n-(k+1)) (k+1) (jcol (n+1) B k n)=jord n (augN n A b)∧Bsz n T k B) (fun _ x _=>n+1-x.t14.toNat)
  (fun c x V'=>∃(t:Nat) (B:Nat→Nat→Cq),x.t16=t∧t≤n∧MatR 5 qC c.o0 V' c.t7 n (n+1) B∧jord n (augN n A b)=some B∧Bsz n T n B∧L07 qC V' x.o143 n (seqF (fun i=>(B i n).div (B i i)) t)) (fun _ x _=>n-x.t16.toNat) ?_
 rw[hl,hql]
 refine⟨(i0h h n0 hn).mono fun v V2 l2 hv=>⟨_,hv,fun c=>absurd c (by decide),fun _=>⟨fun c=>absurd c (by simp),fun _=>trivial⟩⟩,?_⟩
 rintro⟨u⟩ V1 l1 _
 refine(y0j (W05.le qC.le l1 h) (by omega) (by omega)).mono fun v m1 V5 l5 _ ⟨r,hv,hM0⟩=>⟨r,hv,⟨0,rfl,by omega,?_⟩,?_⟩
 · exact(MatG.ofR hM0).congr (fun i _=>by rw[if_neg (by omega)]) (fun i k _ hk=>(a0u hk).symm)
 have hrl:r.len=n:=hM0.len
 have L5:=View.le_trans l1 l5
 rintro⟨t8,o0⟩ V6 l6 ⟨t,et,ht,hG⟩
 dsimp only at et hG ⊢
 subst et
 have L6:=View.le_trans L5 l6
 rw[hrl]
 refine⟨fun hlt => ?_,fun hge=>⟨?_,?_⟩⟩
 · have hk:t<n:=by simp at hlt; omega
   obtain⟨ga,s,g1,g2,g3,g4,g5,⟨o,hC,ho⟩,g7⟩:=hG.row hk
   have ew:(if t<t then n+1 else n)=n:=if_neg (Nat.lt_irrefl t)
   simp only[ew]at g2 g4 g5 hC
   obtain⟨q1,x,⟨y,rfl,hy⟩,_,hh,hs⟩:=t00.get (QsAt.le L6 hb) (t:=(t:Int)) (by omega) (z:=b t) (by rw[Int.toNat_natCast]; exact i05 hk _)
   rw[hql]at q1
   refine⟨⟨by omega,by omega,ga⟩,s,.inl (by rw[Int.toNat_natCast]; exact g1),q1,y,.inr hh,hs,fun b3 V7 l7 _ hb3 => ?_⟩
   refine⟨o,y.val.cells.toList,⟨g3,fun e=>by have:=g5 e; omega⟩,J0f l7 ho,by rw[hC.length,n00,g2],.inr (a0d hb3),rfl,Q09 y,by unfold maxLen; omega,by omega,fun _ hc=>g7 hc,fun a1 c1 m2 hAp=>⟨⟨by omega,by omega,ga⟩,?_⟩⟩
   obtain⟨b5,c3,l6',e1,e2,e3,hG2⟩:=(hG.le qC.le l7).app (x:=y.val.cells.toList) (z:=b t) hk (by simp only[ew]; omega) g1 rfl ⟨y,rfl,hy.le l7⟩ (o:=o) (by simp only[ew]; exact hC.imp (qC.le l7)) hAp
   rw[Int.toNat_natCast]
   refine⟨b5,c3,l6',e1,e2,e3,?_⟩
   rw[i64w (by omega) (by omega)]
   refine⟨⟨t+1,by omega,by omega,hG2.congr (fun i hi => ?_) (fun i k hi hk2 => ?_)⟩,by omega⟩
   · by_cases e:i=t
     · subst e; rw[if_pos rfl,ew,if_pos (by omega)]
     · rw[if_neg e]
       by_cases e2:i<t
       · rw[if_pos e2,if_pos (by omega)]
       · rw[if_neg e2,if_neg (by omega)]
   · rw[ew]
     by_cases e:i=t∧k=n
     · rw[if_pos e,e.1,e.2,w0v]
     · rw[if_neg e]
 · have e:t=n:=by simp at hge; omega
   subst e
   refine⟨0,augN t A b,rfl,by omega,hG.toR (w:=t+1) (fun i hi=>by rw[if_pos hi]),rfl,hA⟩
 rintro⟨t9,o0'⟩ V8 l8 ⟨k,B,e9,hk,hM,hJ,hS⟩
 dsimp only at e9 hM ⊢
 subst e9
 refine⟨fun hlt => ?_,fun hge => ?_⟩
 · have hkn:k<n:=by simp at hlt; omega
   refine⟨⟨⟨k,B,k,rfl,hkn,hM,hJ,hS,rfl,by omega,by omega,fun q h1 h2=>absurd h1 (by omega)⟩,?_⟩,?_⟩
   · rintro⟨t10⟩ V10 l10 ⟨k',B',t,e9,_,hM',hJ',hS',e10,h1,h2,h3⟩
     dsimp only at e9 e10 hM' ⊢
     obtain rfl:k'=k:=by omega
     subst e10
     refine⟨fun hlt => ?_,fun hge=>⟨k',B',rfl,hkn,hM',hJ',hS',?_⟩⟩
     · have ht:t<n:=by simp at hlt; omega
       obtain⟨ga,s,g1,_⟩:=hM'.row ht
       obtain⟨g2,g3,y,hy,hh,hs⟩:=P0b hM' ht (k:=k') (by omega) g1
       refine⟨⟨by omega,by omega,ga⟩,s,.inl (by rw[Int.toNat_natCast]; exact g1),⟨by omega,by omega,g3⟩,y,by rw[Int.toNat_natCast]; exact hh,by rw[Int.toNat_natCast]; exact hs,(i0e hy).mono fun v V11 l11 hv=>⟨_,hv,fun c => ?_,fun c=>⟨k',B',rfl,hkn,hM'.le qC.le l11,hJ',hS',?_⟩⟩⟩
       · have c:B' t k'=Cq.zero:=by simpa using c
         rw[i64w (by omega) (by omega)]
         refine⟨⟨k',B',t+1,rfl,hkn,hM'.le qC.le l11,hJ',hS',by omega,by omega,by omega,fun q' h1' h2' => ?_⟩,by omega⟩
         by_cases e:q'=t
         · rw[e]; exact l0f.2 c
         · exact h3 q' h1' (by omega)
       · have c:B' t k'≠Cq.zero:=by simpa using c
         show(t:Int)=_
         rw[x0l numO B' h1 h2 h3 (fun _=>G0b.2 c)]
     · have e:t=n:=by simp at hge; omega
       show(t:Int)=_
       rw[x0l numO B' h1 h2 h3 (fun g=>absurd g (by omega)),e]
   rintro⟨t10⟩ V9 l9 ⟨k',B',e9,_,hM',hJ',hS',e10⟩
   dsimp only at e9 e10 hM' ⊢
   obtain rfl:k'=k:=by omega
   subst e10
   obtain⟨p1,p2,p3,p4⟩:=L08 numO B' (c:=k') (n:=n) (by omega)
   have en:n-k'=(n-(k'+1))+1:=by omega
   rw[en]at hJ'
   unfold a0h at hJ'
   generalize hpv:pivF numO B' k' n=pv at *
   refine⟨fun c => ?_,fun c => ?_⟩
   · have c:pv=n:=by simp at c; omega
     rw[if_pos c]at hJ'
     refine⟨by omega,fun V12 l12 _=>⟨_,_,rfl,fun _=>rfl,fun B2 h2 => ?_⟩⟩
     rw[←hJ']at h2; simp at h2
   have c:pv≠n:=by simp at c; omega
   rw[if_neg c]at hJ'
   have hpn:pv<n:=by omega
   have hB0:B' pv k'≠Cq.zero:=G0b.1 (p4 hpn)
   obtain⟨ga,s1,g1,_⟩:=hM'.row hkn
   obtain⟨_,s2,g2,_⟩:=hM'.row hpn
   obtain⟨b7,c4,l8',e1,e2,e3,b8,c5,l9',e4,e5,e6,hM2⟩:=hM'.swap (by omega) hkn hpn g1 g2
   refine⟨⟨by omega,by omega,ga⟩,s1,.inl (by rw[Int.toNat_natCast]; exact g1),⟨by omega,by omega,ga⟩,s2,.inl (by rw[Int.toNat_natCast]; exact g2),⟨by omega,by omega,ga⟩,b7,c4,l8',by rw[Int.toNat_natCast]; exact e1,e2,e3,⟨by omega,by omega,ga⟩,b8,c5,l9',by rw[Int.toNat_natCast]; exact e4,e5,e6,?_,?_⟩
   · refine⟨k',K08 B' k' pv,0,rfl,hkn,rfl,by omega,?_,?_,hJ',hS'.swap hkn hpn⟩
     · rw[S0r]; exact hM2
     · unfold K08; rw[if_pos rfl]; exact hB0
   rintro⟨t11,o0''⟩ V13 l13 ⟨k2,B2,R,f9,_,f11,hR,hM3,hD,hJ2,hS2⟩
   dsimp only at f9 f11 hM3 ⊢
   obtain rfl:k2=k':=by omega
   subst f11
   have big:∀i j,i<n→j<n+1→(B2 i j).sz≤2^34:=fun i j hi hj=>by
    have:=hS2 i j hi hj
    have:=W0n (k:=k2) (n:=n) (by omega) T
    omega
   have stepR:∀(o:View) (Vx:View),MatR 5 qC o Vx r n (n+1) (jcol (n+1) B2 k2 (R+1))→R<n →
    (∃(k:Nat) (B:Nat→Nat→Cq) (R':Nat),(k2:Int)=k∧k<n∧(IntKind.i64.wrap ((R:Int)+1))=R'∧R'≤n∧MatR 5 qC o Vx r n (n+1) (jcol (n+1) B k R')∧B k k≠Cq.zero∧a0h n (n+1) (n-(k+1)) (k+1) (jcol (n+1) B k n)=jord n (augN n A b)∧Bsz n T k B)∧n-(IntKind.i64.wrap ((R:Int)+1)).toNat<n-(R:Int).toNat:=fun o Vx hm hR=>by
    rw[i64w (by omega) (by omega)]
    exact⟨⟨k2,B2,R+1,rfl,hkn,by omega,by omega,hm,hD,hJ2,hS2⟩,by omega⟩
   refine⟨fun hlt2=>⟨fun hne => ?_,fun he => ?_⟩,fun hge2 => ?_⟩
   · have hRn:R<n:=by simp at hlt2; omega
     have hRk:R≠k2:=by simp at hne; omega
     obtain⟨ga3,sR,gR,_⟩:=hM3.row hRn
     obtain⟨_,sk,gk,_⟩:=hM3.row hkn
     obtain⟨R1,R2,yR,hyR,hhR,hsR⟩:=P0b hM3 hRn (k:=k2) (by omega) gR
     obtain⟨K1,K2,yk,hyk,hhk,hsk⟩:=P0b hM3 hkn (k:=k2) (by omega) gk
     rw[w0n]at hyR
     rw[d0q]at hyk
     refine⟨⟨by omega,by omega,ga3⟩,sR,.inl (by rw[Int.toNat_natCast]; exact gR),⟨by omega,by omega,R2⟩,yR,by rw[Int.toNat_natCast]; exact hhR,by rw[Int.toNat_natCast]; exact hsR,⟨by omega,by omega,ga3⟩,sk,.inl (by rw[Int.toNat_natCast]; exact gk),⟨by omega,by omega,K2⟩,yk,by rw[Int.toNat_natCast]; exact hhk,by rw[Int.toNat_natCast]; exact hsk,?_⟩
     have zR:=big R k2 hRn (by omega)
     have zk:=big k2 k2 hkn (by omega)
     refine(j0e hyR hyk (by omega) (by omega)).mono fun v V14 l14 ⟨r4,er,hv,h4,_,_⟩=>⟨r4,er,hv,⟨k2,B2,R,k2,rfl,hkn,rfl,hRn,hRk,rfl,by omega,by omega,h4,?_,hD,hJ2,hS2⟩,?_⟩
     · rw[T0r]; exact hM3.le qC.le l14
     rintro⟨t14,o3⟩ V15 l15 ⟨k3,B3,R3,K,f9',_,f11',_,_,f14,hK1,hK2,h4',hM4,hD3,hJ3,hS3⟩
     dsimp only at f9' f11' f14 h4' hM4 ⊢
     obtain rfl:k3=k2:=by omega
     obtain rfl:R3=R:=by omega
     subst f14
     have big3:∀i j,i<n→j<n+1→(B3 i j).sz≤2^34:=fun i j hi hj=>by
      have:=hS3 i j hi hj
      have:=W0n (k:=k3) (n:=n) (by omega) T
      omega
     refine⟨fun hle => ?_,fun hgt => ?_⟩
     · have hKn:K≤n:=by simp at hle; omega
       obtain⟨ga4,sR',gR',_⟩:=hM4.row hRn
       obtain⟨_,sk',gk',_⟩:=hM4.row hkn
       obtain⟨R1',R2',yR',hyR',hhR',hsR'⟩:=P0b hM4 hRn (k:=K) (by omega) gR'
       obtain⟨K1',K2',yk',hyk',hhk',hsk'⟩:=P0b hM4 hkn (k:=K) (by omega) gk'
       rw[N0w,w0n]at hyR'
       rw[M0w _ hRk,d0q]at hyk'
       refine⟨⟨by omega,by omega,ga4⟩,sR',.inl (by rw[Int.toNat_natCast]; exact gR'),⟨by omega,by omega,ga4⟩,sR',.inl (by rw[Int.toNat_natCast]; exact gR'),⟨by omega,by omega,R2'⟩,yR',by rw[Int.toNat_natCast]; exact hhR',by rw[Int.toNat_natCast]; exact hsR',⟨by omega,by omega,ga4⟩,sk',.inl (by rw[Int.toNat_natCast]; exact gk'),⟨by omega,by omega,K2'⟩,yk',by rw[Int.toNat_natCast]; exact hhk',by rw[Int.toNat_natCast]; exact hsk',?_⟩
       have z1:=big3 R3 K hRn (by omega)
       have z2:=big3 k3 K hkn (by omega)
       have z3:=l0k (z:=B3 R3 k3) (w:=B3 k3 k3) (S:=2^34) (big3 _ _ hRn (by omega)) (big3 _ _ hkn (by omega))
       have z4:=m01 ((B3 R3 k3).div (B3 k3 k3)) (B3 k3 K)
       refine(K03 h4' hyk' (by omega) (by omega)).mono fun v V16 l16 ⟨r6,hv,h6⟩=>⟨r6,hv,?_⟩
       refine(B0f (hyR'.le l16) h6 (by omega) (by omega)).mono fun v V17 l17 ⟨r7,hv,h7⟩=>⟨r7,hv,⟨by omega,by omega,R2'⟩,?_⟩
       have L7:=View.le_trans l16 l17
       obtain⟨_,_,b9,c6,l10',a1,a2,a3,hM5⟩:=(hM4.le qC.le L7).put hRn (k:=K) (by omega) (y:=r7.val.cells.toList) (z:=B3 R3 K-(B3 R3 k3).div (B3 k3 k3)*B3 k3 K) rfl ⟨r7,rfl,h7⟩ gR'
       rw[Int.toNat_natCast]
       refine⟨b9,c6,l10',a1,a2,a3,?_⟩
       rw[i64w (by omega) (by omega)]
       refine⟨⟨k3,B3,R3,K+1,rfl,hkn,rfl,hRn,hRk,by omega,by omega,by omega,h4'.le L7,?_,hD3,hJ3,hS3⟩,by omega⟩
       have st:=D0t (jcol (n+1) B3 k3 R3) (c:=k3) (R:=R3) ((B3 R3 k3).div (B3 k3 k3)) (K:=K) hK1
       rw[w0n,d0q]at st
       rw[←st]
       refine hM5.congr fun i j _ _ => ?_
       by_cases e:i=R3
       · rw[if_pos e,if_pos e,e]
       · rw[if_neg e,if_neg e]
     · have e:K=n+1:=by simp at hgt; omega
       subst e
       rw[M0u _ _ hRk]at hM4
       rw[i64w (by omega) (by omega)]
       exact⟨⟨k3,B3,R3+1,rfl,hkn,by omega,by omega,hM4,hD3,hJ3,hS3⟩,by omega⟩
   · have hRn:R<n:=by simp at hlt2; omega
     have hRk:R=k2:=by simp at he; omega
     refine stepR o0'' V13 ?_ hRn
     rw[hRk,C0t,←hRk]
     rw[←hRk]at hM3
     exact hM3
   · have e:R=n:=by simp at hge2; omega
     subst e
     rw[i64w (by omega) (by omega)]
     exact⟨⟨k2+1,jcol (R+1) B2 k2 R,by omega,by omega,hM3,hJ2,hS2.col hkn⟩,by omega⟩
 · have e:k=n:=by simp at hge; omega
   subst e
   rw[Nat.sub_self]at hJ
   have hJ:jord k (augN k A b)=some B:=hJ.symm
   have big:∀i j,i<k→j<k+1→(B i j).sz≤2^34:=fun i j hi hj=>by
    have:=hS i j hi hj
    omega
   refine⟨⟨by omega,by omega,by omega,by omega⟩,⟨0,B,rfl,by omega,hM,hJ,hS,?_⟩,?_⟩
   · rw[Int.toNat_natCast]; exact L07.start qC V8 _ _
   rintro⟨t16,o143⟩ V18 l18 ⟨t,B',e16,ht,hM',hJ',hS',hC⟩
   dsimp only at e16 hM' hC ⊢
   subst e16
   have eB:B'=B:=by rw[hJ]at hJ'; exact(Option.some.inj hJ').symm
   subst eB
   refine⟨fun hlt => ?_,fun hge => ?_⟩
   · have htn:t<k:=by simp at hlt; omega
     obtain⟨ga,s,g1,_⟩:=hM'.row htn
     obtain⟨a1,a2,y,hy,hh,hs⟩:=P0b hM' htn (k:=k) (by omega) g1
     obtain⟨_,_,y2,hy2,hh2,hs2⟩:=P0b hM' htn (k:=t) (by omega) g1
     refine⟨⟨by omega,by omega,ga⟩,s,.inl (by rw[Int.toNat_natCast]; exact g1),⟨by omega,by omega,a2⟩,y,by rw[Int.toNat_natCast]; exact hh,by rw[Int.toNat_natCast]; exact hs,⟨by omega,by omega,ga⟩,s,.inl (by rw[Int.toNat_natCast]; exact g1),⟨by omega,by omega,a2⟩,y2,by rw[Int.toNat_natCast]; exact hh2,by rw[Int.toNat_natCast]; exact hs2,?_⟩
     have z1:=big t k htn (by omega)
     have z2:=big t t htn (by omega)
     refine(j0e hy hy2 (by omega) (by omega)).mono fun v V19 l19 ⟨r8,er,hv,h8,_,_⟩=>⟨r8,er,hv,⟨by omega,by omega⟩,?_,?_⟩
     · rw[Int.toNat_natCast]; exact hC.room htn
     · rw[i64w (by omega) (by omega),Int.toNat_natCast]
       exact⟨⟨t+1,B',by omega,by omega,hM'.le qC.le l19,hJ',hS',(hC.le (qC.le l19)).next htn rfl ⟨r8,rfl,h8⟩⟩,by omega⟩
   · have e:t=k:=by simp at hge; omega
     subst e
     refine⟨by omega,fun V20 l20 _ b11 V21 l21 hb11 => ?_⟩
     rw[Int.toNat_natCast]
     refine⟨_,_,rfl,fun h => ?_,fun B2 h2 => ?_⟩
     · rw[hJ]at h; simp at h
     · have e3:B2=B':=by rw[hJ]at h2; exact(Option.some.inj h2).symm
       subst e3
       exact⟨rfl,x08 hb11 ((hC.le (qC.le (View.le_trans l20 l21))).all fun p hp=>c0q hp) (by rw[n00])⟩
structure c0x (m m' V:View) (o:List Value) (t w:Nat) (bs:Nat→Nat):Prop where
 row:∀i,i<t→o[i]?=some (.slice (some ⟨bs i,0,none⟩) w w)∧m (bs i)=none∧∃l:List Value,m' (bs i)=some l.toArray∧x01 5 qC V l (rowL w fun _=>Cq.zero)
 inj:∀i j,i<t→j<t→bs i=bs j→i=j
 old:∀b cs,m b=some cs→m' b=some cs
theorem i0d {m V:View} {n w:Nat} (hn:n≤2^20) (hw:w≤2^20) :
 X07 Tryz.prog u0m #[.int .i64 (n:Int),.int .i64 (w:Int)] m V fun v m' V'=>∃r:Sl,v=r.v∧MatS 5 qC m' V' r n w (fun _ _=>Cq.zero) (fun b=>m b=none)∧∀b cs,m b=some cs→m' b=some cs:=by
 refine j0l m (n:Int) (w:Int) V _ (fun _ x V'=>∃(t:Nat) (bs:Nat→Nat),x.t6=t∧t≤n∧x.o9.length=n∧c0x m x.o0 V' x.o9 t w bs) (fun _ x _=>n-x.t6.toNat)
  (fun c x V'=>∃(t k:Nat) (bs:Nat→Nat) (l:List Value),c.t6=t∧t<n∧c.o9.length=n∧x.t7=k∧k≤w∧c0x m x.o0 V' c.o9 t w bs∧c.o9[t]?=some (.slice (some ⟨bs t,0,none⟩) w w)∧m (bs t)=none∧(∀i,i<t→bs i≠bs t)∧x.o0 (bs t)=some l.toArray∧L07 qC V' l w (seqF (fun _=>Cq.zero) k)) (fun _ x _=>w-x.t7.toNat) ?_
 refine⟨⟨by omega,by omega,by omega,by omega⟩,⟨0,fun _=>0,rfl,by omega,by simp,⟨fun i h=>absurd h (by omega),fun i j h=>absurd h (by omega),fun _ _ h=>h⟩⟩,?_⟩
 rintro⟨t6,o0,o9⟩ V1 l1 ⟨t,bs,et,ht,hlen,hZ⟩
 dsimp only at et hlen hZ ⊢
 subst et
 refine⟨fun hlt => ?_,fun hge => ?_⟩
 · have hk:t<n:=by simp at hlt; omega
   refine⟨⟨by omega,by omega,by omega,by omega⟩,fun b1 hb1 hb2=>⟨⟨by omega,by omega⟩,by rw[hlen,Int.toNat_natCast]; omega,?_,?_⟩⟩
   · have nb:∀i,i<t→bs i≠b1:=fun i hi e=>by
       obtain⟨_,_,l,h3,_⟩:=hZ.row i hi
       rw[e,hb1]at h3; simp at h3
     refine⟨t,0,fun i=>if i=t then b1 else bs i,_,rfl,hk,by simp[hlen],rfl,by omega,⟨fun i hi => ?_,fun i j hi hj e => ?_,fun b cs h => ?_⟩,?_,?_,fun i hi => ?_,?_,L07.start qC V1 w _⟩
     · obtain⟨h1,h2,l,h3,h4⟩:=hZ.row i hi
       simp only[if_neg (show ¬i=t by omega)]
       refine⟨?_,h2,l,by simp only[j00]; rw[if_neg (nb i hi)]; exact h3,h4⟩
       rw[List.getElem?_set]
       rw[if_neg (by omega)]; exact h1
     · simp only[if_neg (show ¬i=t by omega),if_neg (show ¬j=t by omega)]at e
       exact hZ.inj i j hi hj e
     · simp only[j00]
       rw[if_neg (fun e=>by have:=hZ.old b cs h; rw[e,hb1]at this; simp at this)]
       exact hZ.old b cs h
     · simp only[if_true]
       rw[List.getElem?_set]
       rw[if_pos (by omega),if_pos (by omega)]; rfl
     · simp only[if_true]
       cases hq:m b1 with
       | none=>rfl
       | some cs=>have:=hZ.old b1 cs hq; rw[hb1]at this; simp at this
     · simp only[if_true,if_neg (show ¬i=t by omega)]; exact nb i hi
     · simp only[if_true,j00]; rfl
   rintro⟨t7,o0'⟩ V2 l2 ⟨t',k,bs',l,e6,_,hlen',e7,hkw,hZ',hrow,hfr,hne,hbl,hO⟩
   dsimp only at e6 hlen' e7 hZ' hrow hbl hO ⊢
   obtain rfl:t'=t:=by omega
   subst e7
   refine⟨fun hlt2 => ?_,fun hge2 => ?_⟩
   · have hkw2:k<w:=by simp at hlt2; omega
     refine⟨⟨by omega,by omega⟩,⟨some ⟨bs' t',0,none⟩,w,w⟩,?_,l0g.mono fun v V3 l3 ⟨r1,hv,h1⟩=>⟨r1,hv,⟨by omega,by show(k:Int)<(w:Nat); omega,rfl⟩,bs' t',k*5,l,?_,hbl,?_,?_⟩⟩
     · have e1:0+Int.toNat (t':Int)*1=t':=by omega
       rw[e1]at hrow ⊢
       exact hrow
     · rw[Int.toNat_natCast]
       by_cases e:k=0<;>simp[Addr.add,e]<;>omega
     · have:=hO.room hkw2; omega
     · rw[i64w (by omega) (by omega)]
       refine⟨⟨t',k+1,bs',_,rfl,hk,hlen',by omega,by omega,⟨fun i hi => ?_,hZ'.inj,fun b cs h => ?_⟩,hrow,hfr,hne,by simp only[j00,if_true]; rfl,?_⟩,by omega⟩
       · obtain⟨h1',h2,l',h3,h4⟩:=hZ'.row i hi
         exact⟨h1',h2,l',by simp only[j00]; rw[if_neg (hne i hi)]; exact h3,h4.imp (qC.le l3)⟩
       · simp only[j00]
         rw[if_neg (fun e=>by rw[e,hfr]at h; simp at h)]
         exact hZ'.old b cs h
       · have:=(hO.le (qC.le l3)).next hkw2 (y:=r1.val.cells.toList) rfl ⟨r1,rfl,h1⟩
         rw[Nat.zero_add]at this
         exact this
   · have e:k=w:=by simp at hge2; omega
     subst e
     rw[i64w (by omega) (by omega)]
     refine⟨⟨t'+1,bs',by omega,by omega,hlen',⟨fun i hi => ?_,fun i j hi hj e => ?_,hZ'.old⟩⟩,by omega⟩
     · by_cases e:i=t'
       · subst e
         exact⟨hrow,hfr,l,hbl,hO.all fun p hp=>c0q hp⟩
       · exact hZ'.row i (by omega)
     · by_cases e1:i=t'<;>by_cases e2:j=t'
       · omega
       · rw[e1]at e; exact absurd e.symm (hne j (by omega))
       · rw[e2]at e; exact absurd e (hne i (by omega))
       · exact hZ'.inj i j (by omega) (by omega) e
 · have e:t=n:=by simp at hge; omega
   subst e
   intro b3 hb3 _
   rw[Int.toNat_natCast]
   have nb:∀i,i<t→bs i≠b3:=fun i hi e=>by
    obtain⟨_,_,l,h3,_⟩:=hZ.row i hi
    rw[e,hb3]at h3; simp at h3
   have eo:o9=((List.range t).map fun i=>(⟨some ⟨bs i,0,none⟩,w,w⟩:Sl)).map Sl.v:=by
    apply List.ext_getElem?
    intro i
    rcases Nat.lt_or_ge i t with g|g
    · rw[(hZ.row i g).1]; simp[g,Sl.v]
    · rw[List.getElem?_eq_none (by omega),List.getElem?_eq_none (by simp; omega)]
   refine⟨_,rfl,⟨rfl,b3,(List.range t).map fun i=>(⟨some ⟨bs i,0,none⟩,w,w⟩:Sl),bs,fun _=>⟨rfl,by simp only[j00,if_true]; rw[eo]⟩,by simp,Nat.le_refl _,fun i s hs => ?_,fun _ i j hi hj e=>hZ.inj i j hi hj e,fun _ i hi=>nb i hi,fun _ => ?_,fun _ i hi=>(hZ.row i hi).2.1⟩,fun b cs h => ?_⟩
   · have hi:i<t:=by
       rcases Nat.lt_or_ge i t with g|g
       · exact g
       · rw[List.getElem?_eq_none (by simp; omega)]at hs; simp at hs
     have es:s=⟨some ⟨bs i,0,none⟩,w,w⟩:=by simpa [hi]using hs.symm
     subst es
     obtain⟨_,_,l,h3,h4⟩:=hZ.row i hi
     refine⟨by rw[n00],Nat.le_refl _,fun e => ?_,fun _=>⟨rfl,l,[],?_,h4,?_⟩⟩
     · have:=congrArg List.length e
       rw[n00]at this; exact this
     · simp only[j00]; rw[if_neg (nb i hi),List.append_nil]; exact h3
     · rw[List.append_nil,h4.length,n00]
   · cases hq:m b3 with
     | none=>rfl
     | some cs=>have:=hZ.old b3 cs hq; rw[hb3]at this; simp at this
   · simp only[j00]
     rw[if_neg (fun e=>by have:=hZ.old b cs h; rw[e,hb3]at this; simp at this)]
     exact hZ.old b cs h
theorem b0u (ms:List Mk) (r k:Nat):(fitA ms r k).im=0:=by
 unfold fitA
 split
 · rfl
 · split<;>rfl
theorem c0u {z:Cq} (h:z.im=0):z.conj=z:=by
 refine Cq.ext' rfl ?_
 show -z.im=z.im
 rw[h]; rfl
def sumA (ms:List Mk) (t:Nat) (a b:Nat):Cq:=sq (fun k=>fitA ms k a*fitA ms k b) 0 t
def sumB (ms:List Mk) (x:Nat) (t:Nat) (a:Nat):Cq:=sq (fun k=>fitA ms k a*fitB ms x k) 0 t
theorem d0u (ms:List Mk) (a k:Nat):adjQ (fitA ms) a k=fitA ms k a:=by
 unfold adjQ; exact c0u (b0u ms k a)
theorem p0q (ms:List Mk):sumA ms ms.length=nrmA ms.length (fitA ms):=by
 funext a b
 unfold sumA nrmA
 exact u08 fun k _ _=>by rw[d0u]
theorem q0q (ms:List Mk) (x:Nat):sumB ms x ms.length=nrmB ms.length (fitA ms) (fitB ms x):=by
 funext a
 unfold sumB nrmB
 exact u08 fun k _ _=>by rw[d0u]
theorem e0u (ms:List Mk) (t a b:Nat):sumA ms (t+1) a b=sumA ms t a b+fitA ms t a*fitA ms t b:=by
 unfold sumA; rw[sq,Nat.zero_add]
theorem f0u (ms:List Mk) (x t a:Nat):sumB ms x (t+1) a=sumB ms x t a+fitA ms t a*fitB ms x t:=by
 unfold sumB; rw[sq,Nat.zero_add]
theorem g0u {V:View} {b:Nat} {a1 a2 a3:NumV} {x y z:Cq} (hb:V b=some (a1.val.cells.toList++(a2.val.cells.toList++a3.val.cells.toList)).toArray) (h1:QAt V a1 x) (h2:QAt V a2 y) (h3:QAt V a3 z) :
 t00 5 qC V ⟨some ⟨b,0,none⟩,3,3⟩ [x,y,z] :=
 t00.of_block (o:=a1.val.cells.toList++(a2.val.cells.toList++a3.val.cells.toList)) (o':=[]) (b:=b) (fun _=>by rw[List.append_nil]; exact hb)
  (show x01 5 qC V (a1.val.cells.toList++(a2.val.cells.toList++a3.val.cells.toList)) [x,y,z]from⟨a1.val.cells.toList,_,rfl,rfl,⟨a1,rfl,h1⟩,a2.val.cells.toList,_,rfl,rfl,⟨a2,rfl,h2⟩,a3.val.cells.toList,[],by simp,rfl,⟨a3,rfl,h3⟩,rfl⟩) rfl (Nat.le_refl _) (fun _=>rfl)
theorem c0s (s:I00):(∀(j:Nat) v,s.x.val.cells.toList[j]?=some v→s.val.cells.toList[0+j]?=some v)∧(∀(j:Nat) v,s.y.val.cells.toList[j]?=some v→s.val.cells.toList[5+j]?=some v) ∧
 (∀(j:Nat) v,s.z.val.cells.toList[j]?=some v→s.val.cells.toList[10+j]?=some v):=by
 have e:s.val.cells.toList=s.x.val.cells.toList++(s.y.val.cells.toList++s.z.val.cells.toList):=rfl
 have lx:s.x.val.cells.toList.length=5:=rfl
 have ly:s.y.val.cells.toList.length=5:=rfl
 refine⟨fun j v hj => ?_,fun j v hj => ?_,fun j v hj => ?_⟩
 · have hlt:j<5:=by
     rcases Nat.lt_or_ge j 5 with g|g
     · exact g
     · rw[List.getElem?_eq_none (by omega)]at hj; simp at hj
   rw[e,List.getElem?_append_left (by omega),Nat.zero_add]; exact hj
 · have hlt:j<5:=by
     rcases Nat.lt_or_ge j 5 with g|g
     · exact g
     · rw[List.getElem?_eq_none (by omega)]at hj; simp at hj
   rw[e,List.getElem?_append_right (by omega),lx,List.getElem?_append_left (by omega),show 5+j-5=j by omega]; exact hj
 · rw[e,List.getElem?_append_right (by omega),lx,List.getElem?_append_right (by omega),ly,show 10+j-5-5=j by omega]; exact hj
theorem Z08 {V:View} {p q:Sl} {n T:Nat} {A:Nat→Nat→Cq} {b:Nat→Cq} (h:W05 5 qC V p (matL n n A)) (hb:QsAt V q (rowL n b)) (n0:0<n) (hn:n≤32) (hA:Bsz n T 0 (augN n A b)) (hT:T*6^n≤2^34) :
 a00 Tryz.prog S0a #[p.v,q.v] V fun v V'=>∃(r:Sl) (e:Bool),v = .tuple #[r.v,.bool e]∧(jord n (augN n A b)=none→e=false) ∧
  ∀B,jord n (augN n A b)=some B→e=true∧QsAt V' r (rowL n fun i=>(B i n).div (B i i)) :=
 C0a p q V _ ((E0i h hb n0 hn hA hT).mono fun v V1 l1 ⟨r,e,hv,h1,h2⟩=>⟨r,e,hv,r,e==0,rfl,fun g=>by rw[h1 g]; rfl,fun B g=>⟨by rw[(h2 B g).1]; rfl,(h2 B g).2⟩⟩)
theorem i0u {ms:List Mk} {S:Nat} (h2:2≤S) (hz:∀m∈ms,m.p.szle S) (a r:Nat):(fitB ms a r).sz≤S:=by
 unfold fitB
 rcases Nat.lt_or_ge r ms.length with g|g
 · exact n0p (hz _ (List.mem_of_getElem? (E0e g))) a
 · have e:ms.getD r mkD=mkD:=by simp[List.getD,g]
   rw[e]
   have z0:Cq.zero.sz≤S:=Nat.le_trans c08 (by omega)
   exact n0p (p:=mkD.p) ⟨z0,z0,z0⟩ a
theorem j0u {ms:List Mk} (hi:∀m∈ms,m.in64) (t a b:Nat):(sumA ms t a b).sz≤1+t*(2*1100+2):=by
 have:=M0t (S:=2201) (f:=fun k=>fitA ms k a*fitA ms k b) t fun k _=>by
  have h1:=i0g hi k a; have h2:=i0g hi k b
  have:=m01 (fitA ms k a) (fitA ms k b)
  omega
 unfold sumA; omega
theorem k0u {ms:List Mk} (hi:∀m∈ms,m.in64) (hz:∀m∈ms,m.p.szle 1100) (x t a:Nat):(sumB ms x t a).sz≤1+t*(2*1100+2):=by
 have:=M0t (S:=2201) (f:=fun k=>fitA ms k a*fitB ms x k) t fun k _=>by
  have h1:=i0g hi k a; have h2:=i0u (by omega) hz x k
  have:=m01 (fitA ms k a) (fitB ms x k)
  omega
 unfold sumB; omega
theorem l0u {ms:List Mk} (hi:∀m∈ms,m.in64) (hz:∀m∈ms,m.p.szle 1100) (x:Nat) :
 Bsz 3 (1+ms.length*(2*1100+2)+2) 0 (augN 3 (nrmA ms.length (fitA ms)) (nrmB ms.length (fitA ms) (fitB ms x))):=by
 intro i j hi3 hj
 rw[←p0q,←q0q]
 rw[Nat.pow_zero,Nat.mul_one]
 rcases Nat.lt_or_ge j 3 with g|g
 · rw[a0u g]
   have:=j0u hi ms.length i j
   omega
 · have e:j=3:=by omega
   subst e
   rw[w0v]
   have:=k0u hi hz x ms.length i
   omega
def stA (ms:List Mk) (t a b:Nat):Nat→Nat→Cq:=fun r k=>if r<a∨(r=a∧k<b)then sumA ms (t+1) r k else sumA ms t r k
def stB (ms:List Mk) (t a b:Nat):Nat→Nat→Cq:=fun r k=>if k<a∨(k=a∧r<b)then sumB ms r (t+1) k else sumB ms r t k
theorem b0v (ms:List Mk) (t a b:Nat):(fun r k=>if r=a then(if k=b then stA ms t a b a b+fitA ms t a*fitA ms t b else stA ms t a b a k)else stA ms t a b r k)=stA ms t a (b+1):=by
 funext r k
 unfold stA
 by_cases e:r=a
 · subst e
   by_cases e2:k=b
   · subst e2; simp[e0u]
   · simp only[if_true,if_neg e2,Nat.lt_irrefl,false_or,true_and]
     by_cases e3:k<b
     · rw[if_pos e3,if_pos (by omega)]
     · rw[if_neg e3,if_neg (by omega)]
 · rw[if_neg e]
   by_cases e3:r<a
   · rw[if_pos (.inl e3),if_pos (.inl e3)]
   · rw[if_neg (by omega),if_neg (by omega)]
theorem c0v (ms:List Mk) (t a b:Nat):(fun r k=>if r=b then(if k=a then stB ms t a b b a+fitA ms t a*fitB ms b t else stB ms t a b b k)else stB ms t a b r k)=stB ms t a (b+1):=by
 funext r k
 unfold stB
 by_cases e:k=a
 · subst e
   by_cases e2:r=b
   · subst e2; simp[f0u]
   · simp only[if_neg e2,Nat.lt_irrefl,false_or,true_and]
     by_cases e3:r<b
     · rw[if_pos e3,if_pos (by omega)]
     · rw[if_neg e3,if_neg (by omega)]
 · have e':¬(k=a∧r<b):=fun h=>e h.1
   have e'':¬(k=a∧r<b+1):=fun h=>e h.1
   simp only[e',e'',or_false]
   by_cases e2:r=b
   · rw[if_pos e2,if_neg e]
     subst e2
     simp only[e,false_and,or_false]
   · rw[if_neg e2]
theorem c0w (ms:List Mk) (t a:Nat) {r k:Nat} (hk:k<3):stA ms t a 3 r k=stA ms t (a+1) 0 r k:=by
 unfold stA
 by_cases e:r<a∨(r=a∧k<3)
 · rw[if_pos e,if_pos (by omega)]
 · rw[if_neg e,if_neg (by omega)]
theorem d0w (ms:List Mk) (t a:Nat) {r k:Nat} (hr:r<3):stB ms t a 3 r k=stB ms t (a+1) 0 r k:=by
 unfold stB
 by_cases e:k<a∨(k=a∧r<3)
 · rw[if_pos e,if_pos (by omega)]
 · rw[if_neg e,if_neg (by omega)]
theorem C0x (ms:List Mk) (t:Nat) (r k:Nat):stA ms t 0 0 r k=sumA ms t r k:=by unfold stA; rw[if_neg (by omega)]
theorem D0x (ms:List Mk) (t:Nat) (r k:Nat):stB ms t 0 0 r k=sumB ms r t k:=by unfold stB; rw[if_neg (by omega)]
theorem E0x (ms:List Mk) (t:Nat) {r:Nat} (k:Nat) (hr:r<3):stA ms t 3 0 r k=sumA ms (t+1) r k:=by unfold stA; rw[if_pos (.inl hr)]
theorem F0x (ms:List Mk) (t:Nat) (r:Nat) {k:Nat} (hk:k<3):stB ms t 3 0 r k=sumB ms r (t+1) k:=by unfold stB; rw[if_pos (.inl hk)]
theorem d0s (ms:List Mk):(g0d 3 ms≠0→fitE ms=g0d 3 ms)∧(g0d 3 ms=0→3≤ms.length∧ms.length≤32∧fitE ms=if f0e ms=Cq.zero then 6 else 0):=by
 unfold g0d fitE
 by_cases c:(ms.length:Int)<3∨32<ms.length
 · rw[if_pos c,if_pos (by omega)]
   exact⟨fun _=>rfl,fun h=>absurd h (by decide)⟩
 · rw[if_neg c,if_neg (show ¬(ms.length<3∨32<ms.length)by omega)]
   by_cases d:ms.all (fun m=>m.p.real)=true
   · rw[if_pos d,if_pos d]; exact⟨fun h=>absurd rfl h,fun _=>⟨by omega,by omega,rfl⟩⟩
   · rw[if_neg d,if_neg d]; exact⟨fun _=>rfl,fun h=>absurd h (by decide)⟩
theorem G0f (ms:List Mk) (x:Nat):(f0e ms=Cq.zero→jord 3 (augN 3 (nrmA ms.length (fitA ms)) (nrmB ms.length (fitA ms) (fitB ms x)))=none) ∧
 (f0e ms≠Cq.zero→∃B,jord 3 (augN 3 (nrmA ms.length (fitA ms)) (nrmB ms.length (fitA ms) (fitB ms x)))=some B∧∀i,i<3→(B i 3).div (B i i)=fitX ms x i):=by
 have hiff:=X0p (n:=3) (w:=4) (by omega) (by omega) (by omega) (augN 3 (nrmA ms.length (fitA ms)) (nrmB ms.length (fitA ms) (fitB ms x)))
 rw[T0t]at hiff
 refine⟨fun h=>A0t fun g=>(hiff.1 g) h,fun h => ?_⟩
 obtain⟨B,h1,_,h3⟩:=B0t (hiff.2 h) Cq.zero
 exact⟨B,h1,h3⟩
set_option maxHeartbeats 2000000 in
theorem w0p {V:View} {q:Sl} {ms:List Mk} (h:P0g V q ms) (hi:∀m∈ms,m.in64) (hz:∀m∈ms,m.p.szle 1100) :
 a00 Tryz.prog s0e #[q.v] V fun v V'=>∃r:o01,v = .tuple #[r.val,.int .i64 (fitE ms)]∧m0i V' r (if fitE ms=0 then fitF ms else F3.zero):=by
 have hl:q.len=ms.length:=h.len
 have nil:∀(e:Int) (V':View),fitE ms=e→e≠0→∃r:o01,Value.tuple #[(o01.mk ⟨zN,zN,zN⟩ ⟨zN,zN,zN⟩ ⟨zN,zN,zN⟩).val,.int .i64 e]=Value.tuple #[r.val,.int .i64 (fitE ms)]∧m0i V' r (if fitE ms=0 then fitF ms else F3.zero):=fun e V' he hne=>by
  rw[he,if_neg hne]; exact⟨_,rfl,m0i.zero V'⟩
 obtain⟨fE1,fE2⟩:=d0s ms
 refine N0d q V _
  (fun c x V'=>∃(t:Nat) (S:Nat→Prop),x.t7=t∧t≤ms.length∧MatS 5 qC x.o0 V' c.t5 3 3 (sumA ms t) S∧MatS 5 qC x.o0 V' c.t6 3 3 (fun r k=>sumB ms r t k) (fun b=>¬S b)) (fun _ x _=>ms.length-x.t7.toNat)
  (fun c x V'=>∃(t a:Nat) (S:Nat→Prop),c.t7=t∧t<ms.length∧x.t10=a∧a≤3∧t00 5 qC V' c.t8 (rowL 3 (fitA ms t))∧t00 5 qC V' c.t9 (rowL 3 fun x=>fitB ms x t)∧MatS 5 qC x.o0 V' c.t5 3 3 (stA ms t a 0) S∧MatS 5 qC x.o0 V' c.t6 3 3 (stB ms t a 0) (fun b=>¬S b)) (fun _ x _=>3-x.t10.toNat)
  (fun c x V'=>∃(t a b:Nat) (S:Nat→Prop),c.t7=t∧t<ms.length∧c.t10=a∧a<3∧x.t11=b∧b≤3∧t00 5 qC V' c.t8 (rowL 3 (fitA ms t))∧t00 5 qC V' c.t9 (rowL 3 fun x=>fitB ms x t)∧MatS 5 qC x.o0 V' c.t5 3 3 (stA ms t a b) S∧MatS 5 qC x.o0 V' c.t6 3 3 (stB ms t a b) (fun b=>¬S b)) (fun _ x _=>3-x.t11.toNat) ?_
 refine(E0f (n:=3) h hz (by omega)).mono fun v V1 l1 ⟨r1,hv,e1⟩=>⟨r1,hv,fun c=>⟨by omega,fun V2 l2 _ => ?_⟩,fun c => ?_⟩
 · have c:r1≠0:=by simpa using c
   rw[e1]at c ⊢
   exact nil _ V2 (fE1 c) c
 have c:r1=0:=by simpa using c
 rw[e1]at c
 obtain⟨n3,n32,eE⟩:=fE2 c
 refine(i0d (n:=3) (w:=3) (by omega) (by omega)).mono fun v m1 V3 l3 _ ⟨r2,hv,hM0,_⟩=>⟨r2,hv,?_⟩
 refine(i0d (n:=3) (w:=3) (by omega) (by omega)).mono fun v m2 V4 l4 _ ⟨r3,hv,hR0,hold⟩=>⟨r3,hv,?_,?_⟩
 · have hA0:=(MatS.ofR (hM0.toR.le qC.le l4)).agree (m':=m2) (fun b hb=>by
     cases e:m1 b with
     | none=>exact absurd e hb
     | some cs=>exact hold b cs e)
   refine⟨0,fun b=>m1 b≠none,rfl,by omega,hA0,(hR0.weaken fun b hb=>fun g=>g hb)⟩
 rintro⟨t7,o0,o2⟩ V5 l5 ⟨t,S,et,ht,hA,hB⟩
 dsimp only at et hA hB ⊢
 subst et
 rw[hl]
 have L5:=View.le_trans l1 (View.le_trans l3 (View.le_trans l4 l5))
 refine⟨fun hlt => ?_,fun hge => ?_⟩
 · have hk:t<ms.length:=by simp at hlt; omega
   have ek:ms[t]?=some (ms.getD t mkD):=E0e hk
   have hmem:ms.getD t mkD∈ms:=List.mem_of_getElem? ek
   obtain⟨g,hs,y,hy,⟨h1,h2⟩,h3,h4⟩:=m0g (h.le L5) ek
   rw[hl]at g
   obtain⟨i1,i2⟩:=hi _ hmem
   refine⟨g,hs,y.i,.inr h3,g,hs,y.j,.inr h4,?_⟩
   rw[hy.i,hy.j]
   refine(B04 (n:=1) (by decide) (by decide)).mono fun v V6 l6 ⟨r4,hv,q4⟩=>⟨r4,hv,?_⟩
   refine(B04 i1.1 i1.2).mono fun v V7 l7 ⟨r5,hv,q5⟩=>⟨r5,hv,?_⟩
   refine(B04 i2.1 i2.2).mono fun v V8 l8 ⟨r6,hv,q6⟩=>⟨r6,hv,fun b2 V9 l9 _ hb2 => ?_⟩
   have L9:=View.le_trans l6 (View.le_trans l7 (View.le_trans l8 l9))
   obtain⟨s1,s2,s3⟩:=c0s y.at_
   have hA9:=A06 L9 h1
   refine⟨g,hs,by rw[Option.isSome_map]; exact hs,y.at_.x,.inr (B0d hA9 s1),by rw[Option.isSome_map,Option.isSome_map]; exact hs,g,hs,by rw[Option.isSome_map]; exact hs,y.at_.y,.inr (B0d hA9 s2),by rw[Option.isSome_map,Option.isSome_map]; exact hs,
    g,hs,by rw[Option.isSome_map]; exact hs,y.at_.z,.inr (B0d hA9 s3),by rw[Option.isSome_map,Option.isSome_map]; exact hs,fun b3 V10 l10 _ hb3=>⟨?_,?_⟩⟩
   · have hrow:t00 5 qC V10 ⟨some ⟨b2,0,none⟩,3,3⟩ (rowL 3 (fitA ms t)):=by
       rw[U0t]
       exact g0u (l10 _ _ hb2) (q4.le (View.le_trans l7 (View.le_trans l8 (View.le_trans l9 l10)))) (q5.le (View.le_trans l8 (View.le_trans l9 l10))) (q6.le (View.le_trans l9 l10))
     have hat:t00 5 qC V10 ⟨some ⟨b3,0,none⟩,3,3⟩ (rowL 3 fun x=>fitB ms x t):=by
      have hp:=hy.p.le (View.le_trans L9 l10)
      exact g0u hb3 hp.x hp.y hp.z
     have La:=View.le_trans L9 l10
     exact⟨t,0,S,rfl,hk,rfl,by omega,hrow,hat,(hA.le qC.le La).congr fun i k _ _=>(C0x ms t i k).symm,(hB.le qC.le La).congr fun i k _ _=>(D0x ms t i k).symm⟩
   rintro⟨t10,o0'⟩ V11 l11 ⟨t',a,S',et,_,ea,ha,hrow,hat,hA',hB'⟩
   dsimp only at et ea hrow hat hA' hB' ⊢
   obtain rfl:t'=t:=by omega
   subst ea
   refine⟨fun hlt2=>⟨⟨t',a,0,S',rfl,hk,rfl,by simp at hlt2; omega,rfl,by omega,hrow,hat,hA',hB'⟩,?_⟩,fun hge2 => ?_⟩
   · have ha3:a<3:=by simp at hlt2; omega
     clear hrow hat
     rintro⟨t11,o0''⟩ V12 l12 ⟨t2,a2,b,S2,et,_,ea,_,eb,hb3',hrow,hat,hA2,hB2⟩
     dsimp only at et ea eb hrow hat hA2 hB2 ⊢
     obtain rfl:t2=t':=by omega
     obtain rfl:a2=a:=by omega
     subst eb
     refine⟨fun hlt3 => ?_,fun hge3 => ?_⟩
     · have hbb:b<3:=by simp at hlt3; omega
       obtain⟨ga,s1,p1,_⟩:=hA2.toR.row ha3
       obtain⟨p2,p3,y1,py1,ph1,ps1⟩:=P0b hA2.toR ha3 hbb p1
       obtain⟨u1,_,⟨z1,rfl,w1⟩,_,uh1,us1⟩:=t00.get hrow (t:=(a2:Int)) (by omega) (z:=fitA ms t2 a2) (by rw[Int.toNat_natCast]; exact i05 ha3 _)
       obtain⟨u2,_,⟨z2,rfl,w2⟩,_,uh2,us2⟩:=t00.get hrow (t:=(b:Int)) (by omega) (z:=fitA ms t2 b) (by rw[Int.toNat_natCast]; exact i05 hbb _)
       obtain⟨u3,_,⟨z3,rfl,w3⟩,_,uh3,us3⟩:=t00.get hat (t:=(b:Int)) (by omega) (z:=fitB ms b t2) (by rw[Int.toNat_natCast]; exact i05 hbb (fun x=>fitB ms x t2))
       have zA:(stA ms t2 a2 b a2 b).sz≤100000:=by
        unfold stA; rw[if_neg (by omega)]
        exact Nat.le_trans (j0u hi _ _ _) (by omega)
       have zB:(stB ms t2 a2 b b a2).sz≤100000:=by
        unfold stB; rw[if_neg (by omega)]
        exact Nat.le_trans (k0u hi hz _ _ _) (by omega)
       have f1:=i0g hi t2 a2; have f2:=i0g hi t2 b; have f3:=i0u (by omega) hz b t2
       have rl2:r2.len=3:=hA2.len
       have rl3:r3.len=3:=hB2.len
       have m1:=m01 (fitA ms t2 a2) (fitA ms t2 b); have m2:=m01 (fitA ms t2 a2) (fitB ms b t2)
       refine⟨⟨by omega,by omega,ga⟩,s1,.inl (by rw[Int.toNat_natCast]; exact p1),⟨by omega,by omega,ga⟩,s1,.inl (by rw[Int.toNat_natCast]; exact p1),⟨by omega,by omega,p3⟩,y1,by rw[Int.toNat_natCast]; exact ph1,by rw[Int.toNat_natCast]; exact ps1,
        u1,z1,.inr uh1,us1,u2,z2,.inr uh2,us2,?_⟩
       refine(K03 w1 w2 (by omega) (by omega)).mono fun v V13 l13 ⟨r7,hv,q7⟩=>⟨r7,hv,?_⟩
       refine(z05 (py1.le l13) q7 (by omega) (by omega)).mono fun v V14 l14 ⟨r8,hv,q8⟩=>⟨r8,hv,⟨by omega,by omega,p3⟩,?_⟩
       have La:=View.le_trans l13 l14
       obtain⟨_,_,b4,c1,l2',sb,e1',e2',e3',hA3⟩:=(hA2.le qC.le La).put ha3 (k:=b) hbb (y:=r8.val.cells.toList) (z:=stA ms t2 a2 b a2 b+fitA ms t2 a2*fitA ms t2 b) rfl ⟨r8,rfl,q8⟩ p1
       have hB3:=(hB2.le qC.le La).agree (m':=j00 o0'' b4 (setL l2' c1 r8.val.cells.toList).toArray) (fun b' hb'=>by
        simp only[j00]
        rw[if_neg (fun e=>hb' (by rw[e]; exact sb))])
       rw[b0v]at hA3
       refine⟨b4,c1,l2',by rw[Int.toNat_natCast]; exact e1',e2',e3',?_⟩
       obtain⟨gb,s2,k1,_⟩:=hB3.toR.row hbb
       obtain⟨k2,k3,y2,py2,ph2,ps2⟩:=P0b hB3.toR hbb ha3 k1
       refine⟨⟨by omega,by omega,gb⟩,s2,.inl (by rw[Int.toNat_natCast]; exact k1),⟨by omega,by omega,gb⟩,s2,.inl (by rw[Int.toNat_natCast]; exact k1),⟨by omega,by omega,k3⟩,y2,by rw[Int.toNat_natCast]; exact ph2,by rw[Int.toNat_natCast]; exact ps2,
        u1,z1,.inr (A06 La uh1),us1,u3,z3,.inr (A06 La uh3),us3,?_⟩
       refine(K03 (w1.le La) (w3.le La) (by omega) (by omega)).mono fun v V15 l15 ⟨r9,hv,q9⟩=>⟨r9,hv,?_⟩
       refine(z05 (py2.le l15) q9 (by omega) (by omega)).mono fun v V16 l16 ⟨r10,hv,q10⟩=>⟨r10,hv,⟨by omega,by omega,k3⟩,?_⟩
       have Lb:=View.le_trans l15 l16
       obtain⟨_,_,b5,c2,l3',sb2,e4',e5',e6',hB4⟩:=(hB3.le qC.le Lb).put hbb (k:=a2) ha3 (y:=r10.val.cells.toList) (z:=stB ms t2 a2 b b a2+fitA ms t2 a2*fitB ms b t2) rfl ⟨r10,rfl,q10⟩ k1
       have hA4:=(hA3.le qC.le Lb).agree (m':=j00 (j00 o0'' b4 (setL l2' c1 r8.val.cells.toList).toArray) b5 (setL l3' c2 r10.val.cells.toList).toArray) (fun b' hb'=>by
        simp only[j00]
        rw[if_neg (fun e=>sb2 (by rw[←e]; exact hb'))])
       rw[c0v]at hB4
       refine⟨b5,c2,l3',by rw[Int.toNat_natCast]; exact e4',e5',e6',?_⟩
       rw[i64w (by omega) (by omega)]
       exact⟨⟨t2,a2,b+1,S2,rfl,hk,rfl,ha3,by omega,by omega,t00.le (qC.le (View.le_trans La Lb)) (View.le_trans La Lb) hrow,t00.le (qC.le (View.le_trans La Lb)) (View.le_trans La Lb) hat,hA4,hB4⟩,by omega⟩
     · have e:b=3:=by simp at hge3; omega
       subst e
       rw[i64w (by omega) (by omega)]
       exact⟨⟨t2,a2+1,S2,rfl,hk,by omega,by omega,hrow,hat,hA2.congr fun i k _ hk=>c0w ms t2 a2 hk,hB2.congr fun i k hi _=>d0w ms t2 a2 hi⟩,by omega⟩
   · have e:a=3:=by simp at hge2; omega
     subst e
     rw[i64w (by omega) (by omega)]
     exact⟨⟨t'+1,S',by omega,by omega,hA'.congr fun i k hi _=>E0x ms t' k hi,hB'.congr fun i k _ hk=>F0x ms t' i hk⟩,by omega⟩
 · have e:t=ms.length:=by simp at hge; omega
   subst e
   refine⟨by omega,fun V17 l17 hm17 => ?_⟩
   have hMA:W05 5 qC V17 r2 (matL 3 3 (sumA ms ms.length)):=(hA.toR).known (qC.le l17) hm17
   have hMB:W05 5 qC V17 r3 (matL 3 3 fun r k=>sumB ms r ms.length k):=(hB.toR).known (qC.le l17) hm17
   rw[p0q]at hMA
   have row:∀x,x<3→∀ {V':View},View.le V17 V'→((0:Int)≤(x:Nat)∧((x:Nat):Int)<(r3.len:Nat)∧Option.isSome r3.a=true)∧∃s:Sl,V'.load (Option.map (fun q=>Addr.add q (Int.toNat (x:Nat)*1)) r3.a)=some s.v∧QsAt V' s (rowL 3 (nrmB ms.length (fitA ms) (fitB ms x))):=fun x hx V' hle=>by
    obtain⟨g,s,h1,h2⟩:=(W05.le qC.le hle hMB).row (t:=(x:Int)) (by omega) (row:=rowL 3 (fun k=>sumB ms x ms.length k)) (by
     rw[Int.toNat_natCast]; unfold matL; simp[hx])
    refine⟨g,s,h1,?_⟩
    have:(fun k=>sumB ms x ms.length k)=nrmB ms.length (fitA ms) (fitB ms x):=q0q ms x
    rw[this]at h2; exact h2
   have T34:(1+ms.length*(2*1100+2)+2)*6^3≤2^34:=by omega
   obtain⟨g0,s0,a1,a2⟩:=row 0 (by omega) (View.le_refl V17)
   refine⟨g0,s0,a1,?_⟩
   refine(Z08 hMA a2 (by omega) (by omega) (l0u hi hz 0) T34).mono fun v V18 l18 ⟨r11,e11,hv,j1,j2⟩=>⟨r11,e11,hv,fun cc => ?_,fun cc => ?_⟩
   · have cc:e11=false:=by simpa using cc
     refine nil 6 V18 ?_ (by decide)
     rw[eE]
     by_cases d:f0e ms=Cq.zero
     · rw[if_pos d]
     · obtain⟨B,hB1,_⟩:=(G0f ms 0).2 d
       rw[(j2 B hB1).1]at cc; simp at cc
   have cc:e11=true:=by simpa using cc
   have d:f0e ms≠Cq.zero:=fun d=>by rw[j1 ((G0f ms 0).1 d)]at cc; simp at cc
   have e0:fitE ms=0:=by rw[eE,if_neg d]
   obtain⟨g1,s1,b1,b2⟩:=row 1 (by omega) l18
   refine⟨g1,s1,b1,?_⟩
   refine(Z08 (W05.le qC.le l18 hMA) b2 (by omega) (by omega) (l0u hi hz 1) T34).mono fun v V19 l19 ⟨r13,e13,hv,_,j3⟩=>⟨r13,e13,hv,?_⟩
   obtain⟨g2,s2,c1,c2⟩:=row 2 (by omega) (View.le_trans l18 l19)
   refine⟨g2,s2,c1,?_⟩
   refine(Z08 (W05.le qC.le (View.le_trans l18 l19) hMA) c2 (by omega) (by omega) (l0u hi hz 2) T34).mono fun v V20 l20 ⟨r15,e15,hv,_,j4⟩=>⟨r15,e15,hv,?_⟩
   obtain⟨B0,k0,x0⟩:=(G0f ms 0).2 d
   obtain⟨B1,k1,x1⟩:=(G0f ms 1).2 d
   obtain⟨B2,k2,x2⟩:=(G0f ms 2).2 d
   have X0:QsAt V20 r11 (rowL 3 (fitX ms 0)):=by rw[←Q02 x0]; exact QsAt.le (View.le_trans l19 l20) (j2 B0 k0).2
   have X1:QsAt V20 r13 (rowL 3 (fitX ms 1)):=by rw[←Q02 x1]; exact QsAt.le l20 (j3 B1 k1).2
   have X2:QsAt V20 r15 (rowL 3 (fitX ms 2)):=by rw[←Q02 x2]; exact(j4 B2 k2).2
   have get:∀ {s:Sl} {F:Nat→Cq},QsAt V20 s (rowL 3 F)→∀k,k<3→((0:Int)≤(k:Nat)∧((k:Nat):Int)<(s.len:Nat)∧Option.isSome s.a=true)∧∃y:NumV,V20.has (Option.map (fun q=>Addr.add q (Int.toNat (k:Nat)*5)) s.a) y.val.cells.toList∧Option.isSome (Option.map (fun q=>Addr.add q (Int.toNat (k:Nat)*5)) s.a)=true∧QAt V20 y (F k):=fun {s F} hs k hk=>by
    obtain⟨g,_,⟨y,rfl,hy⟩,_,hh,hs'⟩:=t00.get hs (t:=(k:Int)) (by omega) (z:=F k) (by rw[Int.toNat_natCast]; exact i05 hk _)
    exact⟨g,y,hh,hs',hy⟩
   obtain⟨g00,y00,h00,i00,q00⟩:=get X0 0 (by omega)
   obtain⟨g01,y01,h01,i01,q01⟩:=get X0 1 (by omega)
   obtain⟨g02,y02,h02,i02,q02⟩:=get X0 2 (by omega)
   obtain⟨g10,y10,h10,i10,q10⟩:=get X1 0 (by omega)
   obtain⟨g11,y11,h11,i11,q11⟩:=get X1 1 (by omega)
   obtain⟨g12,y12,h12,i12,q12⟩:=get X1 2 (by omega)
   obtain⟨g20,y20,h20,i20,q20⟩:=get X2 0 (by omega)
   obtain⟨g21,y21,h21,i21,q21⟩:=get X2 1 (by omega)
   obtain⟨g22,y22,h22,i22,q22⟩:=get X2 2 (by omega)
   refine⟨g00,y00,h00,i00,g10,y10,h10,i10,g20,y20,h20,i20,g01,y01,h01,i01,g11,y11,h11,i11,g21,y21,h21,i21,g02,y02,h02,i02,g12,y12,h12,i12,g22,y22,h22,i22,_,by rw[e0],?_⟩
   rw[if_pos e0]
   exact d0e.toZ ⟨⟨q00,q10,q20⟩,⟨q01,q11,q21⟩,⟨q02,q12,q22⟩⟩
theorem e0w {f:F3} {ms:List Mk} (hf:f.szle 64) (h:∀m∈ms,m.p.szle 64∧m.in64):(resV f ms).sz≤4000:=by
 unfold resV
 split
 · exact S0l hf ms _ (Nat.le_trans c08 (by omega)) h
 · exact Nat.le_trans c08 (by omega)
theorem W0l {V:View} {s:Sl} {ks:List O0a} {f0:T08} (h:t00 11 lmC V s ks) (hi:∀k∈ks,lmI k) (hf:lfI f0) :
 a00 Tryz.prog P0a #[s.v,f0.val] V fun v _=>v = .bool true:=by
 have hl:s.len=ks.length:=h.len
 have zf:=a0x hf
 have ok:=z0x hi
 refine B0a s f0 V _ ⟨fun c=>C0f.mono fun v V1 _ hv=>⟨_,hv,rfl⟩,fun c => ?_⟩
 have hn:ks.length≤40:=by rw[hl]at c; simp at c; omega
 refine(U0l h hi (by omega)).mono fun v V2 l2 ⟨r2,r3,hv,h2,h3⟩=>⟨r2,r3,hv,?_⟩
 generalize ks.map lmM=ms at *
 have ok1:∀m∈ms,m.in64:=fun m hm=>(ok m hm).2
 have ok2:∀m∈ms,m.p.szle 64:=fun m hm=>(ok m hm).1
 have ok3:∀m∈ms,m.p.szle 1100:=fun m hm=>(ok m hm).1.mono (by omega)
 refine(l0q h2 ok1 ok3).mono fun v V3 l3 ⟨r4,hv,h4,z4⟩=>⟨r4,_,hv,?_⟩
 refine(w0p (h3.le l3) ok1 ok3).mono fun v V4 l4 ⟨r6,hv,h6⟩=>⟨r6,_,hv,fun c=>absurd c (by simp),fun _ => ?_⟩
 have z5:(if fitE ms=0 then fitF ms else F3.zero).szle (2^32):=by
  by_cases e:fitE ms=0
  · rw[if_pos e]; exact z4 e
  · rw[if_neg e]; exact b0s _ (by decide)
 refine(A0i (h4.le l4) h6 z5 (by decide)).mono fun v V5 l5 hv=>⟨_,hv,fun c=>absurd c (by decide),fun _ => ?_⟩
 refine(x0j hf).mono fun v V6 l6 ⟨r9,r10,hv,h9,h10⟩=>⟨r9,r10,hv,?_⟩
 have L6:=View.le_trans l3 (View.le_trans l4 (View.le_trans l5 l6))
 have zv:=e0w zf ok
 refine(T0l h9 (h2.le L6) zf ok2 ok1).mono fun v V7 l7 ⟨r11,hv,h11⟩=>⟨r11,_,hv,?_⟩
 refine(g0h (h10.le l7) (h3.le (View.le_trans L6 l7)) zf ok2 ok1).mono fun v V8 l8 ⟨r13,hv,h13⟩=>⟨r13,_,hv,fun _ => ?_,fun c=>absurd c (by simp)⟩
 refine(F0d (h11.le l8) (.inl h13) (by omega)).mono fun v V9 l9 hv=>⟨_,hv,fun _ => ?_,fun c=>absurd c (by decide)⟩
 exact C0f.mono fun v V10 _ hv=>⟨_,hv,rfl⟩
