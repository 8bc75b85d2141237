/- Part. -/
import Derived.Test.YtjadnpidefnpoaaGreatPartE
namespace Go.Proofs.YtjadnpidefnpoaaGreat
open Go Go.Vc Go.Proofs
open Go.Proofs.Tryz (prog)
open Go.IntKind (i64 u64 u32 u8)
theorem k14{V:View}{p1 p2 p3:Option Addr}{r:Sl}{B:Nat->Bool}{n k:Nat}{gd:Int}(h1:V.load p1=some (.int .i64 gd))(h2:V.load p2=some (.int .i64 (n:Int)))(h3:V.load p3=some r.v)
 (hr:p08 V r ((List.range n).map B)) (hk:k<n) (hn:n<=64) (hB:B k=false) :
 a00 prog P09 #[.int .i64 (k:Int),.pointer p1,.pointer p2,.pointer p3] V λv _=>v = .bool (nrP B n gd k n):=by
 refine p09 k p1 p2 p3 V _ (λ_ x _=>∃d:Nat,x.t6=d/\1<=d/\d<=n+1/\∀e:Nat,1<=e->e<d->B ((k+e)%n)=false/\B ((k+n*e-e)%n)=false) (λ_ x _=>(n+1-x.t6).toNat)
  ⟨⟨1,rfl,by omega,by omega,λe he he'=>by omega⟩,?_⟩
 rintro⟨t⟩ V1 l1 ⟨d,rfl,d1,dn,hno⟩
 dsimp only
 have hm:(if(n:Int)<gd then(n:Int)else gd)<=n/\(if(n:Int)<gd then(n:Int)else gd)<=gd:=by split<;>omega
 have hm2:(if(n:Int)<gd then(n:Int)else gd)=n\/(if(n:Int)<gd then(n:Int)else gd)=gd:=by split<;>simp
 refine⟨gd,H01 l1 h1,n,H01 l1 h2,λhle => ?_,λhgt => ?_⟩
 . simp only[decide_eq_true_eq]at hle
   have hd:d<=n:=by omega
   have hgd:(d:Int)<=gd:=by omega
   have hnd:n*d<=64*64:=Nat.mul_le_mul hn (by omega)
   have hrl:r.len=n:=by have:=hr.len; simpa using this
   have e1:Int.tmod (i64.wrap ((k:Int)+d)) (n:Int)=(((k+d)%n:Nat):Int):=by
    rw[i64w (by omega) (by omega)]; rfl
   have e2:Int.tmod (i64.wrap (i64.wrap ((k:Int)+i64.wrap ((n:Int)*d))-d)) (n:Int)=(((k+n*d-d)%n:Nat):Int):=by
    have em:(n:Int)*(d:Int)=((n*d:Nat):Int):=by rw[Int.natCast_mul]
    have hge:d<=n*d:=Nat.le_mul_of_pos_left _ (by omega)
    rw[em,i64w (n:=((n*d:Nat):Int)) (by omega) (by omega),i64w (n:=(k:Int)+((n*d:Nat):Int)) (by omega) (by omega)]
    have e3:(k:Int)+((n*d:Nat):Int)-(d:Int)=((k+n*d-d:Nat):Int):=by omega
    rw[e3,i64w (by omega) (by omega)]; rfl
   have m1:(k+d)%n<n:=Nat.mod_lt _ (by omega)
   have m2:(k+n*d-d)%n<n:=Nat.mod_lt _ (by omega)
   obtain⟨hb1,x1,hx1,_,hh1,_⟩:=l01.get (p08.le l1 hr) (t:=(((k+d)%n:Nat):Int)) (by omega) (z:=B ((k+d)%n)) (by rw[Int.toNat_natCast]; simp[m1])
   obtain⟨hb2,x2,hx2,_,hh2,_⟩:=l01.get (p08.le l1 hr) (t:=(((k+n*d-d)%n:Nat):Int)) (by omega) (z:=B ((k+n*d-d)%n)) (by rw[Int.toNat_natCast]; simp[m2])
   refine⟨r,H01 l1 h3,n,H01 l1 h2,by omega,?_⟩
   rw[e1]
   refine⟨hb1,B ((k+d)%n),m0a (by rw[show x1=_ from hx1]at hh1; exact hh1),λk1 => ?_,λk1=>⟨r,H01 l1 h3,n,H01 l1 h2,n,H01 l1 h2,by omega,?_⟩⟩
   . rw[a0p hk hB d1 hd hgd (.inl k1)]
   rw[e2]
   refine⟨hb2,B ((k+n*d-d)%n),m0a (by rw[show x2=_ from hx2]at hh2; exact hh2),λk2 => ?_,λk2 => ?_⟩
   . rw[a0p hk hB d1 hd hgd (.inr k2)]
   . rw[i64w (by omega) (by omega)]
     refine⟨⟨d+1,by omega,by omega,by omega,λe he he' => ?_⟩,by omega⟩
     by_cases c:e=d
     . subst c; exact⟨k1,k2⟩
     . exact hno e he (by omega)
 . simp only[decide_eq_false_iff_not]at hgt
   rw[j11 hk λe he hg hen=>hno e he (by omega)]
theorem I0t{b c:Bk}:(b.isIn c&&c.isIn b)=decide (b=c):=by
 obtain⟨⟨a1,a2⟩,⟨a3,a4⟩⟩:=b
 obtain⟨⟨c1,c2⟩,⟨c3,c4⟩⟩:=c
 rw[Bool.eq_iff_iff]
 simp only[Bk.isIn,Sk.isIn,Bool.and_eq_true,decide_eq_true_eq,Bk.mk.injEq,Sk.mk.injEq]
 omega
theorem m14{V:View}{b c:Bk}(h:b.ok)(k:c.ok):a00 prog c0d #[b.v.val,c.v.val] V λv _=>v = .bool (decide (b=c)) :=
 w0c _ _ V _ ((X0e h k).mono λv V1 _ hv=>⟨_,hv,λc1=>(X0e k h).mono λv V2 _ hv=>⟨_,hv,by rw[<-I0t,c1,Bool.true_and]⟩,λc0=>by rw[<-I0t,c0,Bool.false_and]⟩)
def tchB(B:Nat->Bool)(n:Nat)(g:Int)(zs:List Bk)(m:Nat):List Int:=((List.range m).filter λk=>nrP B n g k n && !decide (nthB zs k=zBx)).map λ(k:Nat)=>(k:Int)
theorem Q0m(B:Nat->Bool)(n:Nat)(g:Int)(zs:List Bk)(m:Nat):tchB B n g zs (m+1)=tchB B n g zs m++if(nrP B n g m n && !decide (nthB zs m=zBx))=true then [(m:Int)]else []:=by
 unfold tchB
 rw[List.range_succ,List.filter_append,List.map_append]
 congr 1
 simp only[List.filter_cons,List.filter_nil]
 split<;>rfl
theorem j0l{B:Nat->Bool}{n:Nat}{g:Int}{zs:List Bk}{m:Nat}(h1:nrP B n g m n=true)(h2:nthB zs m≠zBx):tchB B n g zs (m+1)=tchB B n g zs m++[(m:Int)]:=by
 rw[Q0m,h1,decide_eq_false h2]; rfl
theorem p0r{B:Nat->Bool}{n:Nat}{g:Int}{zs:List Bk}{m:Nat}(h1:nrP B n g m n=false):tchB B n g zs (m+1)=tchB B n g zs m:=by
 rw[Q0m,h1]; simp
theorem H0w{B:Nat->Bool}{n:Nat}{g:Int}{zs:List Bk}{m:Nat}(h2:nthB zs m=zBx):tchB B n g zs (m+1)=tchB B n g zs m:=by
 rw[Q0m,decide_eq_true h2]; simp
theorem B0h(B:Nat->Bool)(n:Nat)(g:Int)(zs:List Bk)(m:Nat):(tchB B n g zs m).length<=m:=by
 unfold tchB
 rw[List.length_map]
 exact Nat.le_trans (List.length_filter_le _ _) (by simp)
def b0o(zs:List Bk)(g:j02)(gd:Int):List Int:=if gtE g zs.length=0 then tchB (inG zs.length g.from_.toNat g.count.toNat) zs.length gd zs zs.length else []
theorem X0y{V:View}{s:Sl}{zs:List Bk}(g:j02)(gd:Int)(h:u01 V s zs) :
 a00 prog F0a #[s.v,g.val,.int .i64 gd] V λv V'=>∃r:Sl,v = .tuple #[r.v,.int .i64 (gtE g zs.length)]/\b0h V' r (b0o zs g gd):=by
 have hl:=h.len
 refine y0a s g gd V _ (λ_ x V'=>∃k:Nat,x.t28=(k:Int)/\k<=zs.length/\∃l,n05 1 x.t12l x.t12c x.o12 l/\x.t12l=(tchB (inG zs.length g.from_.toNat g.count.toNat) zs.length gd zs k).length/\y01 1 intC V' l (tchB (inG zs.length g.from_.toNat g.count.toNat) zs.length gd zs k))
  (λ_ x _=>(zs.length-x.t28).toNat) ?_
 rw[hl]
 refine(Z0b g _).mono λv V1 l1 hv=>⟨_,hv,λh1 => ?_,λh1 => ?_⟩
 . have h1:gtE g zs.length≠0:=by simpa using h1
   unfold b0o; rw[if_neg h1]
   exact⟨_,rfl,l01.nil⟩
 have h1:gtE g zs.length=0:=by simpa using h1
 obtain⟨c1,c2⟩:=g0l.1 h1
 have hb:=B0a c1
 unfold b0o; rw[if_pos h1,h1]
 refine(L0m c2 hb.2).mono λv V2 l2 ⟨r,hv,hr⟩=>⟨r,hv,λb1 V3 l3 hb1 b2 V4 l4 hb2 b3 V5 l5 hb3 => ?_⟩
 have hgl:s09 zs.length g.from_.toNat g.count.toNat=(List.range zs.length).map (inG zs.length g.from_.toNat g.count.toNat):=rfl
 rw[hgl]at hr
 generalize inG zs.length g.from_.toNat g.count.toNat=B at hr ⊢
 have hrl:r.len=zs.length:=by have:=hr.len; simpa using this
 refine⟨⟨0,rfl,by omega,[],n05.nil,rfl,rfl⟩,?_⟩
 rintro⟨n,c,t,o⟩ V6 l6 ⟨k,rfl,hk,l,hlo,hn,hin⟩
 dsimp only at hlo hn hin ⊢
 refine⟨λhlt => ?_,λhge b V11 l11 hb11 => ?_⟩
 . simp only[decide_eq_true_eq]at hlt
   have hk':k<zs.length:=by omega
   have w1:i64.wrap ((k:Int)+1)=(k:Int)+1:=i64w (by omega) (by omega)
   rw[w1]
   have ld1:V6.load (some (Addr.mk b1 0 none))=some (.int .i64 gd):=H01 (View.le_trans l4 (View.le_trans l5 l6)) (I0j hb1)
   have ld2:V6.load (some (Addr.mk b2 0 none))=some (.int .i64 (zs.length:Int)):=H01 (View.le_trans l5 l6) (I0j hb2)
   have ld3:V6.load (some (Addr.mk b3 0 none))=some r.v:=H01 l6 (I0j hb3)
   have hr6:=p08.le (View.le_trans l3 (View.le_trans l4 (View.le_trans l5 l6))) hr
   have L6:View.le V V6:=View.le_trans l1 (View.le_trans l2 (View.le_trans l3 (View.le_trans l4 (View.le_trans l5 l6))))
   obtain⟨hbx,x,hx,_,hh,_⟩:=l01.get hr6 (t:=(k:Int)) (by omega) (z:=B k) (by simp[hk'])
   have stay:∀ {V':View},tchB B zs.length gd zs (k+1)=tchB B zs.length gd zs k->∃k2:Nat,(k:Int)+1=k2/\k2<=zs.length/\∃l,n05 1 n c o l/\n=(tchB B zs.length gd zs k2).length/\y01 1 intC V' l (tchB B zs.length gd zs k2):=by
    intro V' e
    refine⟨k+1,by omega,by omega,l,hlo,?_,?_⟩
    . rw[e]; exact hn
    . rw[e]; exact x0g hin
   refine⟨r,ld3,hbx,B k,m0a (by rw[show x=_ from hx]at hh; exact hh),λk1 => ?_,λk1 => ?_⟩
   . have hBk:B k=false:=by simpa using k1
     refine(k14 ld1 ld2 ld3 hr6 hk' hb.2 hBk).mono λv V7 l7 hv=>⟨_,hv,λk2 => ?_,λk2 => ?_⟩
     . obtain⟨hb4,hx4,hs4,k4⟩:=(h.le (View.le_trans L6 l7)).at hk'
       refine⟨hb4,_,hx4,hs4,m12.mono λv V8 l8 hv=>⟨_,hv,?_⟩⟩
       refine(l0r k4 N0m).mono λv V9 l9 hv=>⟨_,hv,λk3 b4 V10 l10 hf hb4' => ?_,λk3 => ?_⟩
       . have k3:nthB zs k≠zBx:=by simpa using k3
         have hlen:=B0h B zs.length gd zs k
         refine⟨l,_,hlo,g12 hb4',rfl,?_,?_,?_,λc1 l3 hl3 => ?_⟩
         . intro v hv; simp at hv; subst hv; rfl
         . simp only[maxLen]; omega
         . omega
         . refine⟨⟨k+1,by omega,by omega,_,hl3,?_,?_⟩,by omega⟩
           . rw[j0l k2 k3]; simp; omega
           . rw[j0l k2 k3]; exact(x0g hin).append (y01.one rfl rfl)
       . have k3:nthB zs k=zBx:=by simpa using k3
         exact⟨stay (H0w k3),by omega⟩
     . exact⟨stay (p0r k2),by omega⟩
   . have hBk:B k=true:=by simpa using k1
     have:nrP B zs.length gd k zs.length=false:=by
      cases e:nrP B zs.length gd k zs.length with
      | false=>rfl
      | true=>obtain⟨_,_,_,h4,_⟩:=Z0k.1 e; rw[hBk]at h4; simp at h4
     exact⟨stay (p0r this),by omega⟩
 . simp only[decide_eq_false_iff_not]at hge
   have hk':k=zs.length:=by omega
   subst hk'
   exact⟨_,rfl,f0b hlo hb11 (x0g hin) hn⟩
theorem Y0y{V:View}{s:Sl}{zs:List Bk}(g:j02)(gd:Int)(h:u01 V s zs) :
 a00 prog G0a #[s.v,g.val,.int .i64 gd] V λv V'=>∃r:Sl,v = .tuple #[r.v,.int .i64 (gtE g zs.length)]/\b0h V' r (b0o zs g gd):=by
 have hl:=h.len
 refine A0a s g gd V _ (λ_ x V'=>∃k:Nat,x.t10=(k:Int)/\k<=zs.length/\∃l,n05 1 x.t9l x.t9c x.o25 l/\x.t9l=(tchB (inG zs.length g.from_.toNat g.count.toNat) zs.length gd zs k).length/\y01 1 intC V' l (tchB (inG zs.length g.from_.toNat g.count.toNat) zs.length gd zs k))
  (λ_ x _=>(zs.length-x.t10).toNat) ?_
 rw[hl]
 refine(F0e _).mono λv V1 l1 hv=>⟨_,hv,λh1 => ?_,λh1 => ?_⟩
 . rw[Int.toNat_natCast]at h1
   have h1:lenB zs.length=false:=by simpa using h1
   have e:gtE g zs.length=4:=by unfold gtE; rw[Int.toNat_natCast,h1]; rfl
   refine⟨_,by rw[e],?_⟩
   unfold b0o; rw[e,if_neg (by decide)]; exact l01.nil
 rw[Int.toNat_natCast]at h1
 have h1:lenB zs.length=true:=by simpa using h1
 have hb:=B0a h1
 refine(u0k g _).mono λv V2 l2 hv=>⟨_,hv,λh2 => ?_,λh2 => ?_⟩
 . have h2:¬a0e g zs.length:=by simpa using h2
   have e:gtE g zs.length=1:=by unfold gtE; rw[Int.toNat_natCast,if_pos h1,if_neg h2]
   refine⟨_,by rw[e],?_⟩
   unfold b0o; rw[e,if_neg (by decide)]; exact l01.nil
 have h2:a0e g zs.length:=by simpa using h2
 have e:gtE g zs.length=0:=g0l.2 ⟨h1,h2⟩
 unfold b0o
 rw[e,if_pos rfl]
 refine(f12 h2 hb.2).mono λv V3 l3 ⟨r,hv,hr⟩=>⟨r,hv,?_⟩
 generalize inG zs.length g.from_.toNat g.count.toNat=B at hr ⊢
 have hrl:r.len=zs.length:=by have:=hr.len; simpa using this
 refine⟨⟨0,rfl,by omega,[],n05.nil,rfl,rfl⟩,?_⟩
 rintro⟨n,c,t,o⟩ V4 l4 ⟨k,rfl,hk,l,hlo,hn,hin⟩
 dsimp only at hlo hn hin ⊢
 refine⟨λhlt => ?_,λhge b V8 l8 hb8 => ?_⟩
 . simp only[decide_eq_true_eq]at hlt
   have hk':k<zs.length:=by omega
   have w1:i64.wrap ((k:Int)+1)=(k:Int)+1:=i64w (by omega) (by omega)
   rw[w1]
   have L4:View.le V V4:=View.le_trans l1 (View.le_trans l2 (View.le_trans l3 l4))
   obtain⟨hbx,x,hx,_,hh,_⟩:=l01.get (p08.le l4 hr) (t:=(k:Int)) (by omega) (z:=nrP B zs.length gd k zs.length) (by simp[hk'])
   have stay:∀ {V':View},tchB B zs.length gd zs (k+1)=tchB B zs.length gd zs k->∃k2:Nat,(k:Int)+1=k2/\k2<=zs.length/\∃l,n05 1 n c o l/\n=(tchB B zs.length gd zs k2).length/\y01 1 intC V' l (tchB B zs.length gd zs k2):=by
    intro V' e
    refine⟨k+1,by omega,by omega,l,hlo,?_,?_⟩
    . rw[e]; exact hn
    . rw[e]; exact x0g hin
   refine⟨hbx,_,m0a (by rw[show x=_ from hx]at hh; exact hh),λk2 => ?_,λk2 => ?_⟩
   . obtain⟨hb4,hx4,hs4,k4⟩:=(h.le L4).at hk'
     refine⟨hb4,_,hx4,hs4,O0f.mono λv V5 l5 hv=>⟨_,hv,?_⟩⟩
     refine(m14 k4 N0m).mono λv V6 l6 hv=>⟨_,hv,λk3 b1 V7 l7 hf hb1 => ?_,λk3 => ?_⟩
     . have k3:nthB zs k≠zBx:=by simpa using k3
       have hlen:=B0h B zs.length gd zs k
       refine⟨l,_,hlo,g12 hb1,rfl,?_,?_,?_,λc1 l3 hl3 => ?_⟩
       . intro v hv; simp at hv; subst hv; rfl
       . simp only[maxLen]; omega
       . omega
       . refine⟨⟨k+1,by omega,by omega,_,hl3,?_,?_⟩,by omega⟩
         . rw[j0l k2 k3]; simp; omega
         . rw[j0l k2 k3]; exact(x0g hin).append (y01.one rfl rfl)
     . have k3:nthB zs k=zBx:=by simpa using k3
       exact⟨stay (H0w k3),by omega⟩
   . exact⟨stay (p0r k2),by omega⟩
 . simp only[decide_eq_false_iff_not]at hge
   have hk':k=zs.length:=by omega
   subst hk'
   obtain⟨o',ho'⟩:=hlo.split
   refine⟨_,rfl,l01.of_block (o:=l) (o':=o') (b:=b) (λhne => ?_) (x0g hin) hn hlo.le (λ_=>rfl)⟩
   rw[<-ho']at hne ⊢
   exact hb8 hne
theorem mulb{a b:Int}{A B:Nat}(ha:a.natAbs<=A)(hb:b.natAbs<=B):(a*b).natAbs<=A*B:=by rw[Int.natAbs_mul]; exact Nat.mul_le_mul ha hb
def z12(r d:RatV):RatV:=⟨64*r.re*d.den+d.re*r.den,64*r.im*d.den+d.im*r.den,64*r.den*d.den⟩
theorem X0i{a x b y:Int}(ha:a.natAbs<=20)(hx:x.natAbs<=6)(hb:b.natAbs<=20)(hy:y.natAbs<=6) :
 i64.wrap (i64.wrap (i64.wrap (64*a)*x)+i64.wrap (b*y))=64*a*x+b*y/\(64*a*x+b*y).natAbs<=8000:=by
 have h1:(64*a).natAbs<=1280:=by omega
 have h2:=mulb h1 hx
 have h3:=mulb hb hy
 rw[i64w (n:=64*a) (by omega) (by omega),i64w (n:=64*a*x) (by omega) (by omega),i64w (n:=b*y) (by omega) (by omega),i64w (by omega) (by omega)]
 exact⟨rfl,by omega⟩
theorem I0w{x y:Int}(hx:x.natAbs<=6)(hy:y.natAbs<=6):i64.wrap (i64.wrap (64*x)*y)=64*x*y/\(64*x*y).natAbs<=8000:=by
 have h1:(64*x).natAbs<=384:=by omega
 have h2:=mulb h1 hy
 rw[i64w (n:=64*x) (by omega) (by omega),i64w (by omega) (by omega)]
 exact⟨rfl,by omega⟩
theorem A12{r d:RatV}(hr:tame r)(hd:tame d):ratI (z12 r d):=by
 obtain⟨⟨a1,a2⟩,⟨a3,a4⟩,a5,a6⟩:=hr
 obtain⟨⟨b1,b2⟩,⟨b3,b4⟩,b5,b6⟩:=hd
 have e1:=(X0i (a:=r.re) (x:=d.den) (b:=d.re) (y:=r.den) (by omega) (by omega) (by omega) (by omega)).2
 have e2:=(X0i (a:=r.im) (x:=d.den) (b:=d.im) (y:=r.den) (by omega) (by omega) (by omega) (by omega)).2
 have e3:=(I0w (x:=r.den) (y:=d.den) (by omega) (by omega)).2
 unfold ratI z12
 dsimp only
 omega
theorem Z15{r d:RatV}(hr:tame r)(hd:tame d) :
 RatV.mk (i64.wrap (i64.wrap (i64.wrap (64*r.re)*d.den)+i64.wrap (d.re*r.den))) (i64.wrap (i64.wrap (i64.wrap (64*r.im)*d.den)+i64.wrap (d.im*r.den))) (i64.wrap (i64.wrap (64*r.den)*d.den))=z12 r d:=by
 obtain⟨⟨a1,a2⟩,⟨a3,a4⟩,a5,a6⟩:=hr
 obtain⟨⟨b1,b2⟩,⟨b3,b4⟩,b5,b6⟩:=hd
 rw[(X0i (a:=r.re) (x:=d.den) (b:=d.re) (y:=r.den) (by omega) (by omega) (by omega) (by omega)).1,(X0i (a:=r.im) (x:=d.den) (b:=d.im) (y:=r.den) (by omega) (by omega) (by omega) (by omega)).1,(I0w (x:=r.den) (y:=d.den) (by omega) (by omega)).1]
 rfl
def y0k(os:List RatV)(i:Nat)(r:RatV):RatV:=if os=[]then r else z12 r (n0k (rnth os (i%os.length)))
theorem Z0y{os:List RatV}{i:Nat}{r:RatV}(hr:tame r):ratI (y0k os i r):=by
 unfold y0k; split
 . exact hr.ok
 . exact A12 hr (y0h _)
def q0r(rs os:List RatV)(n i:Nat):Bk:=(ofB (ratQ (rnth (p05 rs n) i))).hull (ofB (ratQ (y0k os i (rnth (p05 rs n) i))))
def s0r(rs os:List RatV)(n:Nat):List Bk:=(List.range n).map (q0r rs os n)
theorem Q0f(rs os:List RatV)(n:Nat):(s0r rs os n).length=n:=by simp[s0r]
theorem S0m{rs os:List RatV}{n i:Nat}(h:i<n):nthB (s0r rs os n) i=q0r rs os n i:=O0q h _
theorem Y0i(rs os:List RatV)(n i:Nat):(q0r rs os n i).ok:=Bk.hull_ok (l0a _) (l0a _)
theorem Z0i(rs os:List RatV)(n i:Nat):(q0r rs os n i).has (ratQ (rnth (p05 rs n) i))=true:=k12 (l0a _) (l0a _) (Q15 _)
theorem T0m{rs os:List RatV}{n:Nat}:∀i,i<(s0r rs os n).length->(nthB (s0r rs os n) i).proper:=λi hi=>by
 rw[Q0f]at hi
 rw[S0m hi]
 exact j12 (Y0i _ _ _ _) (Z0i _ _ _ _)
set_option maxHeartbeats 1000000 in
theorem J0t{V:View}{s t:Sl}{rs os:List RatV}{n:Nat}(hs:Z0d V s rs)(ht:Z0d V t os)(hr:rs.length<2^64)(hn:n<=64)(ho64:os.length<=8) :
 a00 prog z0g #[s.v,t.v,.int .i64 (n:Int)] V λv V'=>∃x y:Sl,v = .tuple #[x.v,y.v]/\u01 V' x (s0r rs os n)/\u01 V' y (s0r rs os n):=by
 have tl:=ht.len
 refine x0f s t n V _ (λc x V'=>∃k:Nat,x.t22=(k:Int)/\k<=n/\OptG 4 boxC V' x.o15 n (seqG (q0r rs os n) k)/\OptG 4 boxC V' x.o17 n (seqG (q0r rs os n) k)) (λ_ x _=>(n-x.t22).toNat) ?_
 refine⟨⟨by omega,by omega,by omega,by omega⟩,⟨by omega,by omega,by omega,by omega⟩,?_⟩
 refine(f0r hs hr (by omega)).mono λv V1 l1 ⟨r1,hv,h1⟩=>⟨r1,hv,?_⟩
 have rl:(p05 rs n).length=n:=by simp[p05]
 have r1l:r1.len=n:=by rw[h1.len,rl]
 rw[r1l,Int.toNat_natCast]
 refine⟨⟨0,rfl,by omega,OptG.start boxC V1 _ _ rfl,OptG.start boxC V1 _ _ rfl⟩,?_⟩
 rintro⟨t22,o15,o17⟩ V2 l2 ⟨k,rfl,hk,hx,hy⟩
 dsimp only at hx hy ⊢
 refine⟨λhlt => ?_,λhge b1 V24 l24 hb1 b2 V25 l25 hb2 => ?_⟩
 . simp only[decide_eq_true_eq]at hlt
   have hk':k<n:=by omega
   have e1:(p05 rs n)[k]?=some (rnth (p05 rs n) k):=by simp[rnth,List.getD,rl,hk']
   have tr:tame (rnth (p05 rs n) k):=Y0n rs n _ (List.mem_of_getElem? e1)
   have eB:q0r rs os n k=(ofB (ratQ (rnth (p05 rs n) k))).hull (ofB (ratQ (y0k os k (rnth (p05 rs n) k)))):=rfl
   have io:=Z0y (os:=os) (i:=k) tr
   have ht2:=ht.le (View.le_trans l1 l2)
   obtain⟨g1,x,hxx,_,g2,g3⟩:=l01.get (Z0d.le l2 h1) (t:=(k:Int)) (by omega) (by rw[Int.toNat_natCast]; exact e1)
   generalize rnth (p05 rs n) k=r at tr eB io hxx
   have hxx:x=r.val.cells.toList:=hxx
   subst hxx
   rw[r1l]at g1
   rw[Int.toNat_natCast]at g2 g3
   have sr:=B0t tr.ok
   have so:=B0t io
   rw[Int.toNat_natCast,i64w (n:=(k:Int)+1) (by omega) (by omega)]
   refine⟨g1,r,g2,g3,λc => ?_,λc => ?_⟩
   . rw[tl]at c ⊢
     have c:0<os.length:=by have:=of_decide_eq_true c; omega
     have hne:os≠[]:=λe=>by rw[e]at c; simp at c
     have hm:k%os.length<os.length:=Nat.mod_lt _ c
     have em:Int.tmod (k:Int) (os.length:Int)=((k%os.length:Nat):Int):=rfl
     rw[em,Int.toNat_natCast]
     have e2:os[k%os.length]?=some (rnth os (k%os.length)):=by simp[rnth,List.getD,hm]
     obtain⟨f1,y,hyy,_,f2,f3⟩:=l01.get ht2 (t:=((k%os.length:Nat):Int)) (by omega) (by rw[Int.toNat_natCast]; exact e2)
     have hyy:y=(rnth os (k%os.length)).val.cells.toList:=hyy
     subst hyy
     rw[tl]at f1
     rw[Int.toNat_natCast]at f2 f3
     have eo:y0k os k r=z12 r (n0k (rnth os (k%os.length))):=by unfold y0k; rw[if_neg hne]
     refine⟨by omega,f1,_,f2,f3,(c0p _).mono λv V3 l3 hv=>⟨_,hv,?_⟩⟩
     rw[Z15 tr (y0h _),<-eo]
     refine(j0a tr.ok).mono λv V4 l4 ⟨r3,hv,h3⟩=>⟨r3,hv,(G0j _ h3 (by omega)).mono λv V5 l5 hv=>⟨_,hv,?_⟩⟩
     refine(j0a io).mono λv V6 l6 ⟨r5,hv,h5⟩=>⟨r5,hv,(G0j _ h5 (by omega)).mono λv V7 l7 hv=>⟨_,hv,?_⟩⟩
     refine(N0i (l0a _) (l0a _)).mono λv V8 l8 hv=>⟨_,hv,⟨by omega,by omega⟩,hx.room hk',?_⟩
     refine(e0b tr.ok).mono λv V9 l9 ⟨r8,hv,h8⟩=>⟨r8,hv,(z08 h8 (by omega)).mono λv V10 l10 hv=>⟨_,hv,?_⟩⟩
     refine(e0b io).mono λv V11 l11 ⟨r10,hv,h10⟩=>⟨r10,hv,(z08 h10 (by omega)).mono λv V12 l12 hv=>⟨_,hv,?_⟩⟩
     refine(T0c (l0a _) (l0a _)).mono λv V13 l13 hv=>⟨_,hv,⟨by omega,by omega⟩,hy.room hk',⟨k+1,by omega,by omega,?_,?_⟩,by omega⟩
     . exact(OptG.le (P:=boxC) (V:=V2) (V':=V13) (λ_ _ h=>h) hx).next hk' rfl ⟨by rw[eB]; rfl,Y0i _ _ _ _⟩
     . exact(OptG.le (P:=boxC) (V:=V2) (V':=V13) (λ_ _ h=>h) hy).next hk' rfl ⟨by rw[eB]; rfl,Y0i _ _ _ _⟩
   . rw[tl]at c
     have c:os.length=0:=by have:=of_decide_eq_false c; omega
     have hne:os=[]:=List.eq_nil_of_length_eq_zero c
     have eo:y0k os k r=r:=by unfold y0k; rw[if_pos hne]
     rw[eo]at eB
     refine(j0a tr.ok).mono λv V4 l4 ⟨r3,hv,h3⟩=>⟨r3,hv,(G0j _ h3 (by omega)).mono λv V5 l5 hv=>⟨_,hv,?_⟩⟩
     refine(j0a tr.ok).mono λv V6 l6 ⟨r5,hv,h5⟩=>⟨r5,hv,(G0j _ h5 (by omega)).mono λv V7 l7 hv=>⟨_,hv,?_⟩⟩
     refine(N0i (l0a _) (l0a _)).mono λv V8 l8 hv=>⟨_,hv,⟨by omega,by omega⟩,hx.room hk',?_⟩
     refine(e0b tr.ok).mono λv V9 l9 ⟨r8,hv,h8⟩=>⟨r8,hv,(z08 h8 (by omega)).mono λv V10 l10 hv=>⟨_,hv,?_⟩⟩
     refine(e0b tr.ok).mono λv V11 l11 ⟨r10,hv,h10⟩=>⟨r10,hv,(z08 h10 (by omega)).mono λv V12 l12 hv=>⟨_,hv,?_⟩⟩
     refine(T0c (l0a _) (l0a _)).mono λv V13 l13 hv=>⟨_,hv,⟨by omega,by omega⟩,hy.room hk',⟨k+1,by omega,by omega,?_,?_⟩,by omega⟩
     . refine(OptG.le (P:=boxC) (V:=V2) (V':=V13) (λ_ _ h=>h) hx).next hk' rfl ⟨?_,Y0i _ _ _ _⟩
       rw[eB]; rfl
     . refine(OptG.le (P:=boxC) (V:=V2) (V':=V13) (λ_ _ h=>h) hy).next hk' rfl ⟨?_,Y0i _ _ _ _⟩
       rw[eB]; rfl
 . simp only[decide_eq_false_iff_not]at hge
   have hk':k=n:=by omega
   subst hk'
   exact⟨_,_,rfl,u01.le l25 (C03 (F:=q0r rs os k) hb1 hx λp hp=>F07 hp),C03 (F:=q0r rs os k) hb2 hy λp hp=>F07 hp⟩
theorem D06{V:View}{p q:Sl}{e:Int}{zs:List Bk}(hp:u01 V p zs)(hq:u01 V q zs)(hn:zs.length<=2^40) :
 a00 prog z0d #[p.v,.int .i64 e,q.v,.int .i64 e] V λv _=>v = .bool true:=by
 have hpl:=hp.len
 have hql:=hq.len
 refine o0d p e q e V _ (λ_ _ _=>True) (λ_ x _=>∃k:Nat,x.t22=(k:Int)/\k<=zs.length) (λ_ x _=>(zs.length-x.t22).toNat) ?_
 rw[hpl,hql]
 refine⟨⟨λc=>absurd c (by simp),λ_=>⟨λc=>absurd c (by simp),λ_=>trivial⟩⟩,?_⟩
 intro _ V1 l1 _
 refine⟨⟨0,rfl,by omega⟩,?_⟩
 rintro⟨t⟩ V2 l2 ⟨k,rfl,hk⟩
 dsimp only
 refine⟨λhlt => ?_,λ_=>rfl⟩
 simp only[decide_eq_true_eq]at hlt
 have hk':k<zs.length:=by omega
 obtain⟨b1,x1,s1,_⟩:=(hp.le (View.le_trans l1 l2)).at hk'
 obtain⟨b2,x2,s2,_⟩:=(hq.le (View.le_trans l1 l2)).at hk'
 rw[Int.toNat_natCast,i64w (by omega) (by omega)]
 exact⟨b1,_,x1,s1,b2,_,x2,s2,(w0v _).mono λv V3 l3 hv=>⟨_,hv,λc=>absurd c (by simp),λ_=>⟨⟨k+1,by omega,by omega⟩,by omega⟩⟩⟩
def expN(p:Int):Nat:=(Int.tmod p 5).toNat
theorem a16{p:Int}(h:0<=p):expN p<=4:=by
 unfold expN
 rw[Int.tmod_eq_emod_of_nonneg h]; omega
theorem a0z{p:Int}(h:0<=p):i64.wrap (1*2^(min (Int.toNat (Int.tmod p 5)) (IntKind.bits .i64)))=((2^expN p:Nat):Int):=by
 have:Int.tmod p 5=0\/Int.tmod p 5=1\/Int.tmod p 5=2\/Int.tmod p 5=3\/Int.tmod p 5=4:=by
  rw[Int.tmod_eq_emod_of_nonneg h]; omega
 unfold expN
 rcases this with e|e|e|e|e<;>rw[e]<;>decide
def B0v(n:Nat):Int:=if n<2 then 4 else 0
theorem b0z{V:View}{s:Sl}{zs:List Bk}(h:u01 V s zs)(hn:zs.length<=64) :
 a00 prog i06 #[s.v] V λv _=>∃b:BoxV,v = .tuple #[b.val,.int .i64 (B0v zs.length)]/\(B0v zs.length=0->b=(estB (ofB (q0h 2)) zs).v):=by
 unfold B0v
 by_cases c:zs.length<2
 . rw[if_pos c]
   exact(f14 h c).mono λv _ _ ⟨b,hv⟩=>⟨b,hv,λx=>absurd x (by decide)⟩
 . rw[if_neg c]
   exact(T15 h (by omega) hn).mono λv _ _ hv=>⟨_,hv,λ_=>rfl⟩
theorem c0z{V:View}{s:Sl}{zs:List Bk}(h:u01 V s zs)(hn:zs.length<=64)(hP:2<=zs.length->((nthB zs 0).add ((nthB zs 0).sub (nthB zs 1))).proper) :
 a00 prog j06 #[s.v] V λv _=>∃b:BoxV,v = .tuple #[b.val,.int .i64 (B0v zs.length)]/\(B0v zs.length=0->b=(estB (ofB (q0h 2)) zs).v):=by
 unfold B0v
 by_cases c:zs.length<2
 . rw[if_pos c]
   exact(g14 h c).mono λv _ _ ⟨b,hv⟩=>⟨b,hv,λx=>absurd x (by decide)⟩
 . rw[if_neg c]
   exact(U15 h (by omega) hn (hP (by omega))).mono λv _ _ hv=>⟨_,hv,λ_=>rfl⟩
theorem K0t(zs:List Bk)(g:j02)(gd:Int):(b0o zs g gd).length<=zs.length:=by
 unfold b0o; split
 . exact B0h _ _ _ _ _
 . exact Nat.zero_le _
theorem esz{zs:List Bk}{d:Bk}:(T0q zBx zs d).length=2*(zs.length+1):=by simp[T0q]
theorem B12{zs:List Bk}{i:Nat}:nthB (zs.drop 1) i=nthB zs (i+1):=by simp[nthB,List.getD,Nat.add_comm]
set_option maxHeartbeats 4000000 in
theorem e0f{V:View}{s t:Sl}{rs os:List RatV}{p2 p4:Int}{g:j02}(h:Z0d V s rs)(ho:Z0d V t os)(p0:0<=p2) :
 a00 prog J08 #[s.v,t.v,.int .u8 p2,g.val,.int .i64 p4] V λv _=>v = .bool true:=by
 have hl:=h.len
 have hol:=ho.len
 have aw:∀ {V':View},a00 prog O09 #[] V' λv V17=>∃r22:Bool,v = .bool r22/\Value.bool r22 = .bool true:=M0y.mono λv V26 _ hv=>⟨_,hv,rfl⟩
 obtain⟨m,em⟩:∃m,m=expN p2:=⟨_,rfl⟩
 have hm4:m<=4:=by rw[em]; exact a16 p0
 obtain⟨n,en⟩:∃n,n=2^m:=⟨_,rfl⟩
 have n1:1<=n:=by rw[en]; exact Nat.pow_pos (by omega)
 have n16:n<=16:=by rw[en]; exact Nat.pow_le_pow_right (n:=2) (by omega) hm4
 obtain⟨xs,exs⟩:∃xs,xs=s0r rs os n:=⟨_,rfl⟩
 obtain⟨ws,ews⟩:∃ws,ws=s0r os rs n:=⟨_,rfl⟩
 have lx:xs.length=n:=by rw[exs,Q0f]
 have lw:ws.length=n:=by rw[ews,Q0f]
 have px:∀i,i<xs.length->(nthB xs i).proper:=by rw[exs]; exact T0m
 have pw:∀i,i<ws.length->(nthB ws i).proper:=by rw[ews]; exact T0m
 have pz:2<=xs.length->((nthB xs 0).add ((nthB xs 0).sub (nthB xs 1))).proper:=λh2=>by
  rw[lx]at h2
  rw[exs,S0m (by omega),S0m (by omega)]
  exact j12 (Bk.add_ok _ _) (i11 (Z0i _ _ _ _) (B15 (Z0i _ _ _ _) (Z0i _ _ _ _)))
 refine C08 s t p2 g p4 V _ (λ_ _ _=>rs.length<=8/\os.length<=8) (λc _ V'=>u01 V' c.t12 xs/\u01 V' c.t13 xs)
  (λc _ V'=>∃l,b0h V' c.t28 l/\b0h V' c.t30 l/\l.length<=64)
  (λc x V'=>∃(l:List Int) (k:Nat),b0h V' c.t28 l/\b0h V' c.t30 l/\l.length<=64/\x.t261=(k:Int)/\k<=l.length) (λc x _=>((c.t28.len:Int)-x.t261).toNat) ?_
 refine⟨⟨λ_=>aw,λg1=>⟨λ_=>aw,λg2 => ?_⟩⟩,?_⟩
 . rw[hl]at g1
   rw[hol]at g2
   simp only[decide_eq_false_iff_not]at g1 g2
   exact⟨by omega,by omega⟩
 rintro _ V1 l1 ⟨k1,k2⟩
 rw[a0z p0,<-em,<-en]
 refine⟨by rw[Int.tmod_eq_emod_of_nonneg p0]; omega,?_⟩
 refine(J0t (h.le l1) (ho.le l1) (by omega) (by omega) k2).mono λv V4 l4 ⟨r3,r4,hv,h3,h4⟩=>⟨r3,r4,hv,?_⟩
 refine(J0t (ho.le (View.le_trans l1 l4)) (h.le (View.le_trans l1 l4)) (by omega) (by omega) k1).mono λv V5 l5 ⟨r5,r6,hv,h5,h6⟩=>⟨r5,r6,hv,?_⟩
 have h3:=h3.le l5
 have h4:=h4.le l5
 rw[<-exs]at h3 h4
 rw[<-ews]at h5 h6
 clear exs ews
 have ft:fitL xs ws:=⟨by omega,by omega⟩
 have N0:=View.le_refl V5
 refine(W13 (h3.le N0) (h5.le N0) ft).mono λv A0 a0 ⟨x0,hv,hx0⟩=>⟨x0,_,hv,?_⟩
 have P0:=View.le_trans N0 a0
 refine(X13 (h4.le P0) (h6.le P0) ft).mono λv B0 b0 ⟨y0,hv,hy0⟩=>⟨y0,_,hv,?_⟩
 refine(D06 (hx0.le b0) hy0 (by rw[P0q]; omega)).mono λv C0 c0 hv=>⟨_,hv,λc=>absurd c (by simp),λ_ => ?_⟩
 have N1:=View.le_trans P0 (View.le_trans b0 c0)
 refine(x0v (h3.le N1) (h5.le N1) ft).mono λv A1 a1 ⟨x1,hv,hx1⟩=>⟨x1,_,hv,?_⟩
 have P1:=View.le_trans N1 a1
 refine(y0v (h4.le P1) (h6.le P1) ft).mono λv B1 b1 ⟨y1,hv,hy1⟩=>⟨y1,_,hv,?_⟩
 refine(D06 (hx1.le b1) hy1 (by rw[X0s]; omega)).mono λv C1 c1 hv=>⟨_,hv,λc=>absurd c (by simp),λ_ => ?_⟩
 have N2:=View.le_trans P1 (View.le_trans b1 c1)
 refine(O14 g (h3.le N2)).mono λv A2 a2 ⟨x2,hv,hx2⟩=>⟨x2,_,hv,?_⟩
 have P2:=View.le_trans N2 a2
 refine(P14 g (h4.le P2)).mono λv B2 b2 ⟨y2,hv,hy2⟩=>⟨y2,_,hv,?_⟩
 refine(D06 (hx2.le b2) hy2 (by unfold O0m; split<;>simp[g0m]<;>omega)).mono λv C2 c2 hv=>⟨_,hv,λc=>absurd c (by simp),λ_ => ?_⟩
 have N3:=View.le_trans P2 (View.le_trans b2 c2)
 refine(i14 (m:=m) g (by omega) (by omega) (by omega) (h3.le N3) (h5.le N3)).mono λv A3 a3 ⟨x3,hv,hx3⟩=>⟨x3,_,hv,?_⟩
 have P3:=View.le_trans N3 a3
 refine(j14 (m:=m) g (by omega) (by omega) (by omega) (h4.le P3) (h6.le P3) pw).mono λv B3 b3 ⟨y3,hv,hy3⟩=>⟨y3,_,hv,?_⟩
 refine(D06 (hx3.le b3) hy3 (by unfold P0m; split<;>simp[N02]<;>omega)).mono λv C3 c3 hv=>⟨_,hv,λc=>absurd c (by simp),λ_ => ?_⟩
 have N4:=View.le_trans P3 (View.le_trans b3 c3)
 refine(Y13 (b:=p4) (h3.le N4) (by omega)).mono λv A4 a4 ⟨x4,hv,hx4⟩=>⟨x4,_,hv,?_⟩
 have P4:=View.le_trans N4 a4
 refine(Z13 (b:=p4) (h4.le P4) (by omega)).mono λv B4 b4 ⟨y4,hv,hy4⟩=>⟨y4,_,hv,?_⟩
 refine(D06 (hx4.le b4) hy4 (by rw[Q0q]; omega)).mono λv C4 c4 hv=>⟨_,hv,λc=>absurd c (by simp),λ_ => ?_⟩
 have N5:=View.le_trans P4 (View.le_trans b4 c4)
 refine(a14 (h3.le N5) (by omega)).mono λv A5 a5 ⟨x5,hv,hx5⟩=>⟨x5,_,hv,?_⟩
 have P5:=View.le_trans N5 a5
 refine(b14 (h4.le P5) (by omega)).mono λv B5 b5 ⟨y5,hv,hy5⟩=>⟨y5,_,hv,?_⟩
 refine(D06 (hx5.le b5) hy5 (by simp[X10]; omega)).mono λv C5 c5 hv=>⟨_,hv,λc=>absurd c (by simp),λ_ => ?_⟩
 have N6:=View.le_trans P5 (View.le_trans b5 c5)
 have lenX:lenB (2*((xs.drop 1).length+1))=true:=by
  rw[List.length_drop,lx,show 2*(n-1+1)=2^(m+1)by rw[Nat.pow_succ]; omega]
  exact s0g (m+1) (by simp; omega)
 have pd:∀i,i<(xs.drop 1).length->(nthB (xs.drop 1) i).proper:=λi hi=>by
  rw[List.length_drop]at hi
  rw[B12]; exact px _ (by omega)
 have w0:=h5.okAt (i:=0) (by omega)
 have e3:r3.len=n:=by rw[h3.len,lx]
 have e4:r4.len=n:=by rw[h4.len,lx]
 have e5:r5.len=n:=by rw[h5.len,lw]
 have e6:r6.len=n:=by rw[h6.len,lw]
 have q3:=h3.cap
 have q4:=h4.cap
 obtain⟨f1,f2,f3,_⟩:=(h5.le N6).at (i:=0) (by omega)
 rw[lw,<-e5]at f1
 refine⟨⟨by omega,by omega,by omega⟩,f1,_,f2,f3,?_⟩
 have d3:=l01.drop (h3.le N6) (k:=1) (by omega)
 refine(s12 (s:=Sl.mk (if r3.cap=1 then r3.a else Option.map (λq=>Addr.add q (1*4)) r3.a) (r3.len-1) (r3.cap-1)) d3 w0 lenX).mono λv A6 a6 ⟨x6,hv,hx6⟩=>⟨x6,_,hv,?_⟩
 have P6:=View.le_trans N6 a6
 obtain⟨g1,g2,g3,_⟩:=(h6.le P6).at (i:=0) (by omega)
 rw[lw,<-e6]at g1
 refine⟨⟨by omega,by omega,by omega⟩,g1,_,g2,g3,?_⟩
 have d4:=l01.drop (h4.le P6) (k:=1) (by omega)
 refine(u12 (s:=Sl.mk (if r4.cap=1 then r4.a else Option.map (λq=>Addr.add q (1*4)) r4.a) (r4.len-1) (r4.cap-1)) d4 w0 lenX pd).mono λv B6 b6 ⟨y6,hv,hy6⟩=>⟨y6,_,hv,?_⟩
 refine(D06 (hx6.le b6) hy6 (by rw[esz,List.length_drop]; omega)).mono λv C6 c6 hv=>⟨_,hv,λc=>absurd c (by simp),λ_ => ?_⟩
 have N7:=View.le_trans P6 (View.le_trans b6 c6)
 refine(p12 (h3.le N7) (by omega) (by omega)).mono λv V27 l27 hv=>⟨_,_,hv,?_⟩
 have N8:=View.le_trans N7 l27
 refine(q12 (h4.le N8) (by omega) (by omega) px).mono λv V28 l28 hv=>⟨_,_,hv,?_⟩
 have N9:=View.le_trans N8 l28
 refine(b0z (h3.le N9) (by omega)).mono λv V29 l29 ⟨z1,hv,ez1⟩=>⟨z1,_,hv,?_⟩
 have N10:=View.le_trans N9 l29
 refine(c0z (h4.le N10) (by omega) pz).mono λv V30 l30 ⟨z2,hv,ez2⟩=>⟨z2,_,hv,?_⟩
 have N11:=View.le_trans N10 l30
 refine⟨⟨λc=>absurd c (by simp),λ_=>(w0v _).mono λv V32 l32 hv=>⟨_,hv,λc=>absurd c (by simp),λ_=>⟨λc=>absurd c (by simp),λ_=>⟨λc => ?_,λ_=>⟨h3.le (View.le_trans N11 l32),h4.le (View.le_trans N11 l32)⟩⟩⟩⟩⟩,?_⟩
 . have c:B0v xs.length=0:=by simpa using c
   rw[ez1 c,ez2 c]
   exact(w0v _).mono λv V33 l33 hv=>⟨_,hv,λc=>absurd c (by simp),λ_=>⟨h3.le (View.le_trans N11 (View.le_trans l32 l33)),h4.le (View.le_trans N11 (View.le_trans l32 l33))⟩⟩
 rintro _ V31 l31 ⟨j3,j4⟩
 dsimp only at j3 j4 ⊢
 refine(X0y g p4 j3).mono λv V34 l34 ⟨r52,hv,h52⟩=>⟨r52,_,hv,?_⟩
 refine(Y0y g p4 (j4.le l34)).mono λv V35 l35 ⟨r54,hv,h54⟩=>⟨r54,_,hv,?_⟩
 have lt:=K0t xs g p4
 generalize b0o xs g p4=l at h52 h54 lt
 have h52:=b0h.le l35 h52
 have e52:r52.len=l.length:=h52.len
 have e54:r54.len=l.length:=h54.len
 refine⟨⟨λc=>absurd c (by simp),λ_=>⟨λc=>absurd c (by rw[e52,e54]; simp),λ_=>⟨l,h52,h54,by omega⟩⟩⟩,?_⟩
 rintro _ V36 l36 ⟨l',i52,i54,hl'⟩
 try dsimp only at i52 i54 ⊢
 refine⟨⟨l',0,i52,i54,hl',rfl,by omega⟩,?_⟩
 rintro⟨t261⟩ V37 l37 ⟨q,k,u52,u54,hq,rfl,hk⟩
 dsimp only at u52 u54 ⊢
 have f52:r52.len=q.length:=u52.len
 have f54:r54.len=q.length:=u54.len
 rw[f52]
 refine⟨λhlt => ?_,λ_=>aw⟩
 have hk':k<q.length:=by have:=of_decide_eq_true hlt; omega
 obtain⟨g1,x,hx,_,hh,_⟩:=l01.get u52 (t:=(k:Int)) (by omega) (z:=q[k]) (by rw[Int.toNat_natCast]; simp[hk'])
 obtain⟨g2,y,hy,_,hh2,_⟩:=l01.get u54 (t:=(k:Int)) (by omega) (z:=q[k]) (by rw[Int.toNat_natCast]; simp[hk'])
 rw[f52]at g1
 rw[i64w (by omega) (by omega)]
 exact⟨g1,q[k],F0w (by rw[show x=_ from hx]at hh; exact hh),g2,q[k],F0w (by rw[show y=_ from hy]at hh2; exact hh2),λc=>absurd c (by simp),λ_=>⟨⟨q,k+1,u52,u54,hq,by omega,by omega⟩,by omega⟩⟩
