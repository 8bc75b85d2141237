/- Part. -/
import Derived.Test.YtjadnpidefnpoaaGreatPartD
import Derived.Laws.StructEq
namespace Go.Proofs.YtjadnpidefnpoaaGreat
open Go Go.Vc Go.Proofs
theorem k0f{r:RatV}(h:ratI r):(ratQ r).sz<=64:=by
 obtain⟨⟨a,b⟩,⟨c,d⟩,e,f⟩:=h
 have key:Rep (ratQ r) (if r.den<0 then -r.re else r.re) (if r.den<0 then -r.im else r.im) (if r.den=0 then 1 else r.den.natAbs):=by
  unfold ratQ
  split
  . rename_i h0
    have:¬r.den<0:=by omega
    rw[if_neg this,if_neg this]
    refine⟨by omega,?_,?_⟩<;>simp only[]<;>rw[Rat.div_def]<;>simp<;>grind
  . by_cases hn:r.den<0
    . rw[if_pos hn,if_pos hn]
      have hd:(r.den:Rat)≠0:=by
       intro e0
       have:=Rat.intCast_inj.1 (e0.trans Rat.intCast_zero.symm)
       omega
      have e:((r.den.natAbs:Nat):Rat) = -(r.den:Rat):=by
       have e1:((r.den.natAbs:Nat):Rat)=(((r.den.natAbs:Nat):Int):Rat):=rfl
       have e2:((r.den.natAbs:Nat):Int) = -r.den:=by omega
       rw[e1,e2,Rat.intCast_neg]
      refine⟨by omega,?_,?_⟩<;>simp only[e,Rat.intCast_neg]<;>grind
    . rw[if_neg hn,if_neg hn]
      have e:((r.den.natAbs:Nat):Rat)=(r.den:Rat):=by
       have e2:((r.den.natAbs:Nat):Int)=r.den:=by omega
       conv=>rhs; rw[<-e2]
       rfl
      exact⟨by omega,by simp only[e],by simp only[e]⟩
 refine key.sz ?_ ?_ ?_
 . exact M05 (by split<;>omega)
 . exact M05 (by split<;>omega)
 . exact M05 (by split<;>omega)
theorem D09{V:View}{r:RatV}(h:ratI r):a00 Tryz.prog B0o #[r.val] V λv V'=>∃x:NumV,v=x.val/\QAt V' x (ratQ r):=by
 obtain⟨⟨a1,a2⟩,⟨b1,b2⟩,⟨c1,c2⟩⟩:=h
 refine C0n r V _ ⟨λhd => ?_,λhd => ?_⟩
 . have hd:r.den=0:=by simpa using hd
   refine(C0c a1 a2 b1 b2 (by omega) (by omega) (by omega)).mono λv V1 _ ⟨x,hv,hx⟩=>⟨x,0,hv,x,rfl,?_⟩
   have e:ratQ r=⟨((r.re:Int):Rat) / ((1:Int):Rat),((r.im:Int):Rat) / ((1:Int):Rat)⟩:=by
    unfold ratQ; rw[if_pos hd]
    exact Cq.ext' (by simp only[]; grind) (by simp only[]; grind)
   rw[e]; exact hx
 . have hd:r.den≠0:=by simpa using hd
   refine(C0c a1 a2 b1 b2 c1 c2 hd).mono λv V1 _ ⟨x,hv,hx⟩=>⟨x,0,hv,x,rfl,?_⟩
   have e:ratQ r=⟨((r.re:Int):Rat) / ((r.den:Int):Rat),((r.im:Int):Rat) / ((r.den:Int):Rat)⟩:=by
    unfold ratQ; rw[if_neg hd]
   rw[e]; exact hx
theorem w0p{V:View}{a b c:NumV}{x y z:Cq}{S:Nat}(ha:N00 V a x)(hb:N00 V b y)(hc:N00 V c z)(sx:x.sz<=S)(sy:y.sz<=S)(sz:z.sz<=S)(hS:S<=2^30) :
 a00 Tryz.prog y0k #[a.val,b.val,c.val] V λv V'=>∃r:NumV,v=r.val/\N00 V' r (s0j x y z):=by
 have s1:=F05 x y; have s2:=F05 z y
 refine g0j a b c V _ ((E04 ha hb (by omega) (by omega)).mono λv V1 l1 ⟨r1,hv,h1⟩=>⟨r1,hv,?_⟩)
 refine(E04 (hc.le l1) (hb.le l1) (by omega) (by omega)).mono λv V2 l2 ⟨r2,hv,h2⟩=>⟨r2,hv,?_⟩
 refine(B0d (h1.le l2) h2 (by omega) (by omega)).mono λv V3 l3 ⟨r3,e,hv,hz,hn⟩=>⟨r3,e,hv,r3,rfl,?_⟩
 by_cases g:z-y=Cq.zero
 . have e1:s0j x y z=Cq.zero:=by
     unfold s0j; rw[g]
     refine Cq.ext' ?_ ?_<;>simp only[Cq.div,Cq.norm,Cq.zero,Rat.mul_zero,Rat.add_zero,Rat.div_def,Rat.inv_zero]
   rw[e1]; exact(hz g).2
 . exact(hn g).2
theorem M0j{V:View}{a b c:NumV}{x y z:Cq}{S:Nat}(ha:N00 V a x)(hb:N00 V b y)(hc:N00 V c z)(sx:x.sz<=S)(sy:y.sz<=S)(sz:z.sz<=S)(hS:S<=2^34) :
 a00 Tryz.prog G0f #[a.val,b.val,c.val] V λv V'=>∃r:NumV,v=r.val/\N00 V' r (M0h x y z):=by
 have s1:=F05 y x; have s2:=U01 z (y-x)
 refine N0e a b c V _ ((E04 hb ha (by omega) (by omega)).mono λv V1 l1 ⟨r1,hv,h1⟩=>⟨r1,hv,?_⟩)
 refine(y02 (hc.le l1) h1 (by omega) (by omega)).mono λv V2 l2 ⟨r2,hv,h2⟩=>⟨r2,hv,?_⟩
 exact(O03 (ha.le (View.le_trans l1 l2)) h2 (by omega) (by omega)).mono λv V3 l3 ⟨r3,hv,h3⟩=>⟨r3,hv,r3,rfl,h3⟩
theorem X0h{V:View}{s:Sl}{l:List Tk}(h:C08 V s l){p:Option Addr}(hp:V.load p=some s.v){t:Nat}{k:Tk}(hk:l[t]?=some k) :
 a00 Tryz.prog G09 #[.int .i64 (t:Int),.pointer p] V λv V'=>∃r:NumV,v = .tuple #[r.val,.bool (decide (k.place.im=0))]/\N00 V' r k.time:=by
 obtain⟨g,y,hy,_,hs,⟨h1,g1⟩,h2,g2⟩:=q0c h (t:=(t:Int)) (by omega) (k:=k) (by rw[Int.toNat_natCast]; exact hk)
 refine M0c (t:Int) p V _ ⟨s,hp,g,hs,y.time,h1,g1,s,hp,g,hs,y.place,h2,g2,?_⟩
 exact(M03 hy.place).mono λv V1 l1 hv=>⟨_,hv,_,rfl,hy.time.le l1⟩
theorem X0f{V:View}{s:Sl}{l:List Tk}(h:C08 V s l){S:Nat}(hz:∀k∈l,k.szle S)(hS:S<=2^30){p:Option Addr}(hp:V.load p=some s.v) :
 a00 Tryz.prog G0d #[.int .i64 (s.len:Int),(Fn1.mk p).val G09] V λv _=>∃r:Int,v = .int .i64 r/\r=S0c l:=by
 have hl:s.len=l.length:=h.len
 refine f06 (s.len:Int) ⟨p⟩ V _ (λ_ _ _=>1<=l.length/\l.length<=4096)
  (λ_ x V'=>∃t:Nat,x.t16=t/\t<=l.length/\(∀k,L0d l t=some k->N00 V' x.o5 k.time/\k.time.im=0)/\ascF none l=ascF ((L0d l t).map λk=>k.time.re) (l.drop t)) (λ_ x _=>l.length-x.t16.toNat) ?_
 rw[hl]
 refine⟨⟨λh0=>⟨_,rfl,?_⟩,λh0=>⟨λh1=>⟨_,rfl,?_⟩,λh1 => ?_⟩⟩,?_⟩
 . unfold S0c; rw[if_pos (.inl (by simpa using h0))]
 . unfold S0c; rw[if_pos (.inr (by simp at h1; omega))]
 . have h0:l.length≠0:=by simpa using h0
   exact⟨by omega,by simp at h1; omega⟩
 rintro⟨u⟩ V1 l1 ⟨hn1,hn2⟩
 refine⟨⟨0,rfl,by omega,λk hk=>by simp[L0d]at hk,rfl⟩,?_⟩
 rw[e0p hn1 hn2]
 rintro⟨t16,o5⟩ V2 l2 ⟨t,et,ht,ho,hE⟩
 dsimp only at et ho ⊢
 subst et
 have L2:=View.le_trans l1 l2
 refine⟨λhlt => ?_,λhge=>⟨_,rfl,?_⟩⟩
 . have hk:t<l.length:=by simp at hlt; omega
   have ek:l[t]?=some l[t]:=List.getElem?_eq_getElem hk
   have hmem:l[t]∈l:=List.getElem_mem hk
   obtain⟨zt,zp⟩:=hz _ hmem
   rw[X0k ek]at hE
   generalize hkk:l[t]=k at *
   refine(X0h (h.le L2) (Q02 L2 hp) ek).mono λv V3 l3 ⟨r1,hv,h1⟩=>⟨r1,_,hv,λc=>⟨_,rfl,?_⟩,λc => ?_⟩
   . have c:¬k.place.im=0:=by simpa using c
     rw[hE]; unfold ascF; rw[if_pos (by unfold Tk.real; simp[c])]
   have c:k.place.im=0:=by simpa using c
   refine(M03 h1).mono λv V4 l4 hv=>⟨_,hv,λd=>⟨_,rfl,?_⟩,λd => ?_⟩
   . have d:¬k.time.im=0:=by simpa using d
     rw[hE]; unfold ascF; rw[if_pos (by unfold Tk.real; simp[d])]
   have d:k.time.im=0:=by simpa using d
   have hr:¬k.real=false:=by unfold Tk.real; simp[c,d]
   have step:∀V',View.le V4 V'->(∀q,L0d l t=some q->¬k.time.re<=q.time.re)->(∃t':Nat,IntKind.i64.wrap ((t:Int)+1)=t'/\t'<=l.length/\(∀k,L0d l t'=some k->N00 V' r1 k.time/\k.time.im=0)/\ascF none l=ascF ((L0d l t').map λk=>k.time.re) (l.drop t'))/\l.length-(IntKind.i64.wrap ((t:Int)+1)).toNat<l.length-(t:Int).toNat:=by
    intro V' l' hq
    rw[i64w (by omega) (by omega)]
    refine⟨⟨t+1,by omega,by omega,?_,?_⟩,by omega⟩
    . intro k' hk'
      rw[L0g,ek]at hk'
      obtain rfl:=Option.some.inj hk'
      exact⟨h1.le (View.le_trans l4 l'),d⟩
    . rw[hE,L0g,ek]
      conv=>lhs; unfold ascF
      rw[if_neg hr]
      cases hpa:L0d l t with
      | none=>rfl
      | some q =>
        simp only[Option.map_some]
        rw[if_neg (hq q hpa)]
   refine⟨λc0 => ?_,λc0=>step V4 (View.le_refl _) λq hq => ?_⟩
   . have hpos:0<t:=by simp at c0; omega
     have ep:l[t-1]?=some l[t-1]:=List.getElem?_eq_getElem (by omega)
     have hpa:L0d l t=some l[t-1]:=by unfold L0d; rw[if_neg (by omega),ep]
     obtain⟨ho1,ho2⟩:=ho _ hpa
     have zq:=(hz _ (List.getElem_mem (show t-1<l.length by omega))).1
     generalize l[t-1]=q at *
     refine(Z06 (h1.le l4) (ho1.le (View.le_trans l3 l4)) (by omega) (by omega)).mono λv V5 l5 hv=>⟨_,hv,λe=>⟨_,rfl,?_⟩,λe=>step V5 l5 λq' hq' => ?_⟩
     . rw[N0h d ho2]at e
       have e:k.time.re<=q.time.re:=by
        rcases d0e k.time.re q.time.re with⟨g,_⟩|⟨g,_⟩|⟨_,g⟩
        . grind
        . grind
        . rw[g]at e; simp at e
       rw[hE,hpa]
       conv=>rhs; unfold ascF
       rw[if_neg hr]
       simp only[Option.map_some]
       rw[if_pos e]
     . rw[hpa]at hq'
       obtain rfl:=Option.some.inj hq'
       rw[N0h d ho2]at e
       rcases d0e k.time.re q.time.re with⟨_,g⟩|⟨_,g⟩|⟨g,_⟩
       . rw[g]at e; simp at e
       . rw[g]at e; simp at e
       . grind
   . have:t=0:=by simp at c0; omega
     subst this
     simp[L0d]at hq
 . have e:t=l.length:=by simp at hge; omega
   subst e
   rw[hE,List.drop_length]; rfl
theorem N0j{V:View}{s:Sl}{l:List Tk}(h:C08 V s l){S:Nat}(hz:∀k∈l,k.szle S)(hS:S<=2^30) :
 a00 Tryz.prog F0f #[s.v] V λv _=>∃r:Int,v = .int .i64 r/\r=S0c l:=by
 refine O0e s V _ λb1 V1 l1 hb1 => ?_
 have hld:V1.load (some (Addr.mk b1 0 none))=some s.v:=by simp[View.load,hb1]
 exact⟨s,hld,(X0f (h.le l1) hz hS hld).mono λv V2 l2 ⟨r,hv,hr⟩=>⟨r,hv,r,rfl,hr⟩⟩
theorem O0j(z w:Cq) : -1<=z.cmp w/\z.cmp w<=1:=by
 unfold Cq.cmp
 split
 . rcases d0e z.re w.re with⟨_,g⟩|⟨_,g⟩|⟨_,g⟩<;>rw[g]<;>decide
 . rcases d0e z.im w.im with⟨_,g⟩|⟨_,g⟩|⟨_,g⟩<;>rw[g]<;>decide
theorem x0p{a b:Int}(ha : -1<=a/\a<=1)(hb : -1<=b/\b<=1):IntKind.i64.wrap (a*b)=a*b:=by
 have h1:a = -1\/a=0\/a=1:=by omega
 have h2:b = -1\/b=0\/b=1:=by omega
 rcases h1 with rfl|rfl|rfl<;>rcases h2 with rfl|rfl|rfl<;>decide
theorem O0n{V:View}{s:Sl}{l:List Tk}(h:C08 V s l)(hn:1<=l.length)(hn2:l.length<=2^40){x:NumV}{p:Cq}(hx:N00 V x p){S:Nat}(hz:∀k∈l,k.szle S)(zp:p.sz<=S)(hS:S<=2^28) :
 a00 Tryz.prog I0i #[s.v,x.val] V λv V'=>∃(r:NumV) (b:Bool),v = .tuple #[r.val,.bool b]/\b=(m08 p l).isSome/\N00 V' r ((m08 p l).getD Cq.zero):=by
 have hl:s.len=l.length:=h.len
 have ek:l[0]?=some l[0]:=List.getElem?_eq_getElem (by omega)
 obtain⟨g,y,hy,_,hs,⟨h1,g1⟩,h2,g2⟩:=q0c h (t:=0) (by omega) (k:=l[0]) ek
 obtain⟨z1,z2⟩:=hz _ (List.getElem_mem (show 0<l.length by omega))
 have e0:m08 p l=if l[0].place=p then some l[0].time else Z0e p l[0] (l.drop 1):=by
  rw[show m08 p l=m08 p (l.drop 0)from rfl,X0k ek]; rfl
 refine y0h s x V _ (λ_ z _=>∃(i:Nat) (a:Tk),z.t6=i/\1<=i/\i<=l.length/\l[i-1]?=some a/\m08 p l=Z0e p a (l.drop i)) (λ_ z _=>l.length-z.t6.toNat) ⟨g,hs,y.place,h2,g2,?_⟩
 refine(k06 hy.place hx (by omega) (by omega)).mono λv V1 l1 hv=>⟨_,hv,λc => ?_,λc=>⟨?_,?_⟩⟩
 . have c:l[0].place=p:=by simpa using c
   rw[e0,if_pos c]
   exact⟨g,hs,y.time,Y07 l1 h1,g1,_,_,rfl,rfl,hy.time.le l1⟩
 . have c:¬l[0].place=p:=by simpa using c
   exact⟨1,l[0],rfl,by omega,by omega,ek,by rw[e0,if_neg c]⟩
 rintro⟨t6,o4⟩ V2 l2 ⟨i,a,ei,i1,i2,ea,hE⟩
 dsimp only at ei ⊢
 subst ei
 have L2:=View.le_trans l1 l2
 rw[hl]
 refine⟨λhlt => ?_,λhge => ?_⟩
 . have hk:i<l.length:=by simp at hlt; omega
   rw[i64w (n:=(i:Int)-1) (by omega) (by omega),i64w (n:=(i:Int)+1) (by omega) (by omega)]
   have eb:l[i]?=some l[i]:=List.getElem?_eq_getElem hk
   obtain⟨za1,za2⟩:=hz a (List.mem_of_getElem? ea)
   obtain⟨zb1,zb2⟩:=hz _ (List.getElem_mem hk)
   rw[X0k eb]at hE
   obtain⟨ga,ya,hya,hha,hsa,_⟩:=q0c (h.le L2) (t:=(i:Int)-1) (by omega) (k:=a) (by rw[show((i:Int)-1).toNat=i-1 by omega]; exact ea)
   obtain⟨gb,yb,hyb,hhb,hsb,_⟩:=q0c (h.le L2) (t:=(i:Int)) (by omega) (k:=l[i]) (by rw[Int.toNat_natCast]; exact eb)
   rw[hl]at ga gb
   generalize l[i]=b at *
   have step:Z0e p b (l.drop (i+1))=m08 p l->(∃(j:Nat) (a:Tk),((i:Int)+1)=j/\1<=j/\j<=l.length/\l[j-1]?=some a/\m08 p l=Z0e p a (l.drop j))/\l.length-((i:Int)+1).toNat<l.length-(i:Int).toNat :=
    λhe=>⟨⟨i+1,b,by omega,by omega,by omega,by rw[Nat.add_sub_cancel]; exact eb,he.symm⟩,by omega⟩
   have eF:m08 p l=if 0<(a.place.cmp p)*(b.place.cmp p)\/a.place=b.place then Z0e p b (l.drop (i+1))else some (M0h a.time b.time (s0j p a.place b.place)):=hE
   have hxx:=hx.le L2
   refine⟨ga,ya,hha,hsa,gb,yb,hhb,hsb,(Z06 hya.place hxx (by omega) (by omega)).mono λv V3 l3 hv=>⟨_,hv,?_⟩⟩
   refine(Z06 (hyb.place.le l3) (hxx.le l3) (by omega) (by omega)).mono λv V4 l4 hv=>⟨_,hv,?_⟩
   rw[x0p (O0j _ _) (O0j _ _)]
   have L4:=View.le_trans l3 l4
   refine⟨λc=>step ?_,λc=>(k06 (hya.place.le L4) (hyb.place.le L4) (by omega) (by omega)).mono λv V5 l5 hv=>⟨_,hv,λd=>step ?_,λd => ?_⟩⟩
   . rw[eF,if_pos (.inl (by simpa using c))]
   . rw[eF,if_pos (.inr (by simpa using d))]
   have c:¬0<(a.place.cmp p)*(b.place.cmp p):=by
    have:=of_decide_eq_false c
    exact this
   have d:¬a.place=b.place:=by simpa using d
   rw [if_neg (by rintro (g | g)
                  . exact c g
                  . exact d g)]at eF
   have L5:=View.le_trans L4 l5
   have s1:=F05 p a.place; have s2:=F05 b.place a.place
   have s3:=Y0l (z:=p-a.place) (w:=b.place-a.place) (S:=2*S+2) (by omega) (by omega)
   refine(w0p (hxx.le L5) (hya.place.le L5) (hyb.place.le L5) zp za2 zb2 (by omega)).mono λv V6 l6 ⟨r5,hv,h5⟩=>⟨r5,hv,?_⟩
   refine(M0j (hya.time.le (View.le_trans L5 l6)) (hyb.time.le (View.le_trans L5 l6)) h5 (S:=8*S+16) (by omega) (by omega) (by show((p-a.place).div (b.place-a.place)).sz<=_; omega) (by omega)).mono λv V7 l7 ⟨r6,hv,h6⟩=>⟨r6,hv,?_⟩
   rw[eF]
   exact⟨_,_,rfl,rfl,h6⟩
 . have e:i=l.length:=by simp at hge; omega
   subst e
   rw[List.drop_length]at hE
   rw[hE]
   exact⟨_,_,rfl,rfl,N00.zero V2⟩
theorem y0p{V:View}{s:Sl}{l:List Tk}(h:C08 V s l){x:NumV}{p:Cq}(hx:N00 V x p){S:Nat}(hz:∀k∈l,k.szle S)(zp:p.sz<=S)(hS:S<=2^28) :
 a00 Tryz.prog u0k #[s.v,x.val] V λv V'=>∃r:NumV,v = .tuple #[r.val,.int .i64 (u0j p l)]/\N00 V' r (w0j p l):=by
 have nil:∀(e:Int) (V':View),u0j p l=e->w0j p l=Cq.zero->∃r:NumV,Value.tuple #[zN.val,.int .i64 e]=Value.tuple #[r.val,.int .i64 (u0j p l)]/\N00 V' r (w0j p l):=λe V' he h0=>by
  rw[he,h0]; exact⟨_,rfl,N00.zero V'⟩
 refine i0j s x V _ ((N0j h hz (by omega)).mono λv V1 l1 ⟨r1,hv,e1⟩=>⟨r1,hv,λc => ?_,λc => ?_⟩)
 . have c:S0c l≠0:=by rw[<-e1]; simpa using c
   exact nil _ V1 (by unfold u0j; rw[if_neg c,e1]) (by unfold w0j; rw[if_neg (by rintro⟨g,_⟩; exact c g)])
 have c:S0c l=0:=by rw[<-e1]; simpa using c
 obtain⟨n1,n2,asc⟩:=d0p c
 refine(M03 (hx.le l1)).mono λv V2 l2 hv=>⟨_,hv,λd => ?_,λd => ?_⟩
 . have d:¬p.im=0:=by simpa using d
   exact nil _ V2 (by unfold u0j; rw[if_pos c,if_neg d]) (by unfold w0j; rw[if_neg (by rintro⟨_,g⟩; exact d g)])
 have d:p.im=0:=by simpa using d
 have eE:u0j p l=if(m08 p l).isSome=true then 0 else 5:=by unfold u0j; rw[if_pos c,if_pos d]
 have eV:w0j p l=(m08 p l).getD Cq.zero:=by unfold w0j; rw[if_pos ⟨c,d⟩]
 have L2:=View.le_trans l1 l2
 refine(O0n (h.le L2) n1 (by omega) (hx.le L2) hz zp hS).mono λv V3 l3 ⟨r3,b,hv,hb,h3⟩=>⟨r3,b,hv,λf => ?_,λf => ?_⟩
 . have f:b=false:=by simpa using f
   rw[f]at hb
   refine nil 5 V3 (by rw[eE,<-hb]; rfl) ?_
   rw[eV]
   cases hq:m08 p l with
   | none=>rfl
   | some w=>rw[hq]at hb; simp at hb
 . have f:b=true:=by simpa using f
   rw[f]at hb
   rw[eE,eV,<-hb]
   exact⟨r3,rfl,h3⟩
def ms0:List Mk:=[⟨0,0,P3.zero⟩,⟨1,0,⟨intQ 2,Cq.zero,Cq.zero⟩⟩,⟨0,1,⟨intQ 1,intQ 3,Cq.zero⟩⟩]
def ts0:List Tk:=[⟨Cq.zero,Cq.zero⟩,⟨intQ 10,intQ 5⟩]
theorem f0l:fitE ms0=0:=by decide +kernel
theorem x0q:(if(fitF ms0).real=true then dotP (fitF ms0).u (fitF ms0).v else Cq.zero)=intQ 2:=by decide +kernel
theorem y0q:(fitF ms0).real=true:=by decide +kernel
theorem z0q:u0j (intQ 3) ts0=0:=by decide +kernel
theorem A0s:w0j (intQ 3) ts0=intQ 6:=by decide +kernel
theorem S0s:((cqS (intQ 2)).toList==(ByteArray.mk #[50]).toList)=true:=by decide +kernel
theorem T0s:((cqS (intQ 6)).toList==(ByteArray.mk #[54]).toList)=true:=by decide +kernel
theorem P0g{V:View}{n:Int}(h0 : -9223372036854775808<=n)(h1:n<=9223372036854775807) :
 a00 Tryz.prog E0i #[.int .i64 n] V λv V'=>∃r:NumV,v=r.val/\N00 V' r (intQ n):=D04 h0 h1
theorem I0r{V:View}:a00 Tryz.prog K0i #[.int .i64 4,.int .i64 2] V λv _=>v = .tuple #[.int .i64 (-2),.int .i64 0]:=by
 have h1:a00 Tryz.prog d0h #[.int .i64 4] V λv _=>v = .bool true :=
  T0f 4 V _ ⟨λ_=>⟨λ_=>rfl,λh=>absurd h (by decide)⟩,λh=>absurd h (by decide)⟩
 refine A0h 4 2 V _ (h1.mono λv V1 _ hv=>⟨_,hv,λh=>absurd h (by decide),λ_=>⟨λh=>absurd h (by decide),λ_=>⟨λh=>absurd h (by decide),λ_ => ?_⟩⟩⟩)
 exact(z0h 4 2 V1 (λv _=>v = .int .i64 (-2)) ⟨λh=>absurd h (by decide),λ_=>rfl⟩).mono λv V2 _ hv=>⟨_,hv,rfl⟩
theorem Y0h{V:View}:a00 Tryz.prog N06 #[] V λv _=>v = .bool true:=by
 refine X09 V _ ((P0g (by omega) (by omega)).mono λv V1 l1 ⟨r1,hv,h1⟩=>⟨r1,hv,?_⟩)
 refine(P0g (by omega) (by omega)).mono λv V2 l2 ⟨r2,hv,h2⟩=>⟨r2,hv,?_⟩
 refine(P0g (by omega) (by omega)).mono λv V3 l3 ⟨r3,hv,h3⟩=>⟨r3,hv,λb1 V4 l4 _ hb1 => ?_⟩
 have hz4:N00 V4 zN Cq.zero:=N00.zero V4
 have hM:C0a V4 (Sl.mk (some (Addr.mk b1 0 none)) 3 3) ms0:=by
  refine I00.of_block (V:=V4) (sz:=17) (P:=a0b) (zs:=ms0) (o:=(q07.mk 0 0 ⟨zN,zN,zN⟩).val.cells.toList++((q07.mk 1 0 ⟨r1,zN,zN⟩).val.cells.toList++(q07.mk 0 1 ⟨r2,r3,zN⟩).val.cells.toList)) (o':=[]) (b:=b1) (λ_=>by rw[List.append_nil]; exact hb1) ?_ rfl (Nat.le_refl _) (λ_=>rfl)
  exact⟨_,_,rfl,rfl,⟨_,rfl,rfl,rfl,hz4,hz4,hz4⟩,_,_,rfl,rfl,⟨_,rfl,rfl,rfl,h1.le (View.le_trans l2 (View.le_trans l3 l4)),hz4,hz4⟩,_,[],by rw[List.append_nil],rfl,⟨_,rfl,rfl,rfl,h2.le (View.le_trans l3 l4),h3.le l4,hz4⟩,rfl⟩
 have s0:∀m∈ms0,m.in64/\m.p.szle 1100:=by
  have z0:Cq.zero.sz<=64:=by decide +kernel
  have i0:∀n:Int,-9223372036854775808<=n/\n<=9223372036854775807->(intQ n).sz<=1100:=λn h=>Nat.le_trans (H03 h) (by omega)
  intro m hm
  simp only[ms0,List.mem_cons,List.not_mem_nil,or_false]at hm
  rcases hm with rfl|rfl|rfl
  . exact⟨⟨⟨by decide,by decide⟩,⟨by decide,by decide⟩⟩,Nat.le_trans z0 (by omega),Nat.le_trans z0 (by omega),Nat.le_trans z0 (by omega)⟩
  . exact⟨⟨⟨by decide,by decide⟩,⟨by decide,by decide⟩⟩,i0 2 (by omega),Nat.le_trans z0 (by omega),Nat.le_trans z0 (by omega)⟩
  . exact⟨⟨⟨by decide,by decide⟩,⟨by decide,by decide⟩⟩,i0 1 (by omega),i0 3 (by omega),Nat.le_trans z0 (by omega)⟩
 refine(U0h hM (λm hm=>(s0 m hm).1) (λm hm=>(s0 m hm).2)).mono λv V5 l5 ⟨r4,hv,h4,hsz⟩=>⟨r4,_,hv,?_⟩
 rw[f0l]at h4
 simp only[if_true]at h4
 refine(o0p h4 (hsz f0l) (by omega)).mono λv V6 l6 ⟨r6,hv,h6⟩=>⟨r6,_,hv,?_⟩
 rw[x0q]at h6
 refine(P0g (by omega) (by omega)).mono λv V7 l7 ⟨r8,hv,h8⟩=>⟨r8,hv,?_⟩
 refine(P0g (by omega) (by omega)).mono λv V8 l8 ⟨r9,hv,h9⟩=>⟨r9,hv,λb2 V9 l9 _ hb2 => ?_⟩
 have hz9:N00 V9 zN Cq.zero:=N00.zero V9
 have hT:C08 V9 (Sl.mk (some (Addr.mk b2 0 none)) 2 2) ts0:=by
  refine I00.of_block (V:=V9) (sz:=10) (P:=J0n) (zs:=ts0) (o:=(K0c.mk zN zN).val.cells.toList++(K0c.mk r8 r9).val.cells.toList) (o':=[]) (b:=b2) (λ_=>by rw[List.append_nil]; exact hb2) ?_ rfl (Nat.le_refl _) (λ_=>rfl)
  exact⟨_,_,rfl,rfl,⟨_,rfl,hz9,hz9⟩,_,[],by rw[List.append_nil],rfl,⟨_,rfl,h8.le (View.le_trans l8 l9),h9.le l9⟩,rfl⟩
 refine(P0g (by omega) (by omega)).mono λv V10 l10 ⟨r10,hv,h10⟩=>⟨r10,hv,?_⟩
 have t0:∀k∈ts0,k.szle 64:=by
  have z0:Cq.zero.sz<=64:=by decide +kernel
  intro k hk
  simp only[ts0,List.mem_cons,List.not_mem_nil,or_false]at hk
  rcases hk with rfl|rfl
  . exact⟨z0,z0⟩
  . exact⟨H03 (by omega),H03 (by omega)⟩
 refine(y0p (S:=64) (hT.le l10) h10 t0 (H03 (by omega)) (by omega)).mono λv V11 l11 ⟨r11,hv,h11⟩=>⟨r11,_,hv,?_⟩
 rw[A0s]at h11
 refine I0r.mono λv V12 l12 hv=>⟨_,_,hv,λ_=>⟨λ_ => ?_,λh => ?_⟩,λh => ?_⟩
 . have L12:=View.le_trans l7 (View.le_trans l8 (View.le_trans l9 (View.le_trans l10 (View.le_trans l11 l12))))
   have i2:(intQ 2).sz<=2^40:=Nat.le_trans (H03 (by omega)) (by omega)
   have i6:(intQ 6).sz<=2^40:=Nat.le_trans (H03 (by omega)) (by omega)
   refine(A0c (h6.le L12) i2).mono λv V13 l13 hv=>⟨_,hv,λ_=>⟨λ_ => ?_,λh => ?_⟩,λh => ?_⟩
   . refine(A0c (h11.le (View.le_trans l12 l13)) i6).mono λv V14 _ hv=>⟨_,hv,λ_=>⟨λ_=>rfl,λh=>absurd h (by decide)⟩,λh => ?_⟩
     rw[T0s]at h; exact absurd h (by decide)
   . rw[z0q]at h; exact absurd h (by decide)
   . rw[S0s]at h; exact absurd h (by decide)
 . rw[if_pos y0q]at h; exact absurd h (by decide)
 . rw[f0l]at h; exact absurd h (by decide)
def arrI(a:Arr3):Prop:=ratI a.e0/\ratI a.e1/\ratI a.e2
def arrP(a:Arr3):P3:=⟨ratQ a.e0,ratQ a.e1,ratQ a.e2⟩
theorem Z0h{a:Arr3}(h:arrI a):(arrP a).szle 64:=⟨k0f h.1,k0f h.2.1,k0f h.2.2⟩
theorem o08{V:View}{a:Arr3}(h:arrI a):a00 Tryz.prog Y0a #[a.val] V λv V'=>∃r1 r2:g01,v = .tuple #[r1.val,r2.val]/\x03 V' r1 (arrP a)/\p0j V' r2 (arrP a):=by
 obtain⟨h0,h1,h2⟩:=h
 refine l0a a V _ ⟨⟨by omega,by omega⟩,⟨by omega,by omega⟩,⟨by omega,by omega⟩,⟨by omega,by omega⟩,⟨by omega,by omega⟩,⟨by omega,by omega⟩,?_⟩
 refine(z0a h0).mono λv V1 l1 ⟨r1,hv,a1⟩=>⟨r1,hv,(z0a h1).mono λv V2 l2 ⟨r2,hv,a2⟩=>⟨r2,hv,(z0a h2).mono λv V3 l3 ⟨r3,hv,a3⟩=>⟨r3,hv,?_⟩⟩⟩
 refine(D09 h0).mono λv V4 l4 ⟨r4,hv,a4⟩=>⟨r4,hv,(D09 h1).mono λv V5 l5 ⟨r5,hv,a5⟩=>⟨r5,hv,(D09 h2).mono λv V6 l6 ⟨r6,hv,a6⟩=>⟨r6,hv,⟨r1,r2,r3⟩,⟨r4,r5,r6⟩,rfl,?_,?_⟩⟩⟩
 . have L:=View.le_trans l4 (View.le_trans l5 l6)
   exact⟨a1.le (View.le_trans l2 (View.le_trans l3 L)),a2.le (View.le_trans l3 L),a3.le L⟩
 . exact⟨a4.le (View.le_trans l5 l6),a5.le l6,a6⟩
def lfI(a:L05):Prop:=arrI a.o/\arrI a.u/\arrI a.v
def lfF(a:L05):F3:=⟨arrP a.o,arrP a.u,arrP a.v⟩
theorem Z0q{a:L05}(h:lfI a):(lfF a).szle 64:=⟨Z0h h.1,Z0h h.2.1,Z0h h.2.2⟩
theorem m0b{V:View}{a:L05}(h:lfI a):a00 Tryz.prog Q09 #[a.val] V λv V'=>∃r1 r2:z01,v = .tuple #[r1.val,r2.val]/\w04 V' r1 (lfF a)/\p0s V' r2 (lfF a):=by
 obtain⟨h0,h1,h2⟩:=h
 refine x09 a V _ ((o08 h0).mono λv V1 l1 ⟨r1,r2,hv,a1,a2⟩=>⟨r1,r2,hv,?_⟩)
 refine(o08 h1).mono λv V2 l2 ⟨r3,r4,hv,a3,a4⟩=>⟨r3,r4,hv,?_⟩
 refine(o08 h2).mono λv V3 l3 ⟨r5,r6,hv,a5,a6⟩=>⟨r5,r6,hv,⟨r1,r3,r5⟩,⟨r2,r4,r6⟩,rfl,?_,?_⟩
 . exact⟨a1.le (View.le_trans l2 l3),a3.le l3,a5⟩
 . exact⟨a2.le (View.le_trans l2 l3),a4.le l3,a6⟩
theorem j07{V:View}{a b:g01}{p q:P3}{S:Nat}(ha:x03 V a p)(hb:x03 V b q)(hp:p.szle S)(hq:q.szle S)(hS:S<=2^40)(e:p=q):a00 Tryz.prog M08 #[a.val,b.val] V λv _=>v = .bool true:=by
 subst e
 obtain⟨z1,z2,z3⟩:=hp
 obtain⟨y1,y2,y3⟩:=hq
 refine z08 a b V _ ((k06 ha.x hb.x (by omega) (by omega)).mono λv V1 l1 hv=>⟨_,hv,λ_ => ?_,λh=>absurd h (by simp)⟩)
 refine(k06 (ha.y.le l1) (hb.y.le l1) (by omega) (by omega)).mono λv V2 l2 hv=>⟨_,hv,λ_ => ?_,λh=>absurd h (by simp)⟩
 have L:=View.le_trans l1 l2
 exact(k06 (ha.z.le L) (hb.z.le L) (by omega) (by omega)).mono λv V3 _ hv=>⟨_,hv,by simp⟩
theorem P0d{V:View}{a b:g01}{p q:P3}{S T:Nat}(ha:x03 V a p)(hb:x03 V b q)(hp:p.szle S)(hq:q.szle T)(hS:S+T<=2^36) :
 a00 Tryz.prog N08 #[a.val,b.val] V λv V'=>∃r:NumV,v=r.val/\N00 V' r (dotP (j0c p q) (j0c p q)):=by
 obtain⟨z1,z2,z3⟩:=hp
 obtain⟨y1,y2,y3⟩:=hq
 have s1:=F05 p.x q.x; have s2:=F05 p.y q.y; have s3:=F05 p.z q.z
 have e:∀u w:Cq,u+i0c*w=u-w:=λu w=>by refine Cq.ext' ?_ ?_<;>simp only[i0c,e01,m01,f01,i01,L02,M02]<;>grind
 have m1:=U01 (p.x-q.x) (p.x-q.x); have m2:=U01 (p.y-q.y) (p.y-q.y); have m3:=U01 (p.z-q.z) (p.z-q.z)
 have m4:=E05 ((p.x-q.x)*(p.x-q.x)) ((p.y-q.y)*(p.y-q.y))
 refine y08 a b V _ ((E04 ha.x hb.x (by omega) (by omega)).mono λv V1 l1 ⟨r1,hv,h1⟩=>⟨r1,hv,?_⟩)
 refine(E04 (ha.y.le l1) (hb.y.le l1) (by omega) (by omega)).mono λv V2 l2 ⟨r2,hv,h2⟩=>⟨r2,hv,?_⟩
 have L2:=View.le_trans l1 l2
 refine(E04 (ha.z.le L2) (hb.z.le L2) (by omega) (by omega)).mono λv V3 l3 ⟨r3,hv,h3⟩=>⟨r3,hv,?_⟩
 have k1:=h1.le (View.le_trans l2 l3)
 refine(y02 k1 k1 (by omega) (by omega)).mono λv V4 l4 ⟨r4,hv,h4⟩=>⟨r4,hv,?_⟩
 have k2:=h2.le (View.le_trans l3 l4)
 refine(y02 k2 k2 (by omega) (by omega)).mono λv V5 l5 ⟨r5,hv,h5⟩=>⟨r5,hv,?_⟩
 refine(O03 (h4.le l5) h5 (by omega) (by omega)).mono λv V6 l6 ⟨r6,hv,h6⟩=>⟨r6,hv,?_⟩
 have k3:=h3.le (View.le_trans l4 (View.le_trans l5 l6))
 refine(y02 k3 k3 (by omega) (by omega)).mono λv V7 l7 ⟨r7,hv,h7⟩=>⟨r7,hv,?_⟩
 refine(O03 (h6.le l7) h7 (by omega) (by omega)).mono λv V8 l8 ⟨r8,hv,h8⟩=>⟨r8,hv,r8,rfl,?_⟩
 have e2:j0c p q=⟨p.x-q.x,p.y-q.y,p.z-q.z⟩:=by
  show P3.mk _ _ _=_
  rw[e,e,e]
 rw[e2]; exact h8
theorem A0q{α β:Type}{f:α->β}{l:List α}{t:Nat}{k:α}(h:l[t]?=some k):(l.take (t+1)).map f=(l.take t).map f++[f k]:=by
 rw[List.take_add_one,h]; simp
end Go.Proofs.YtjadnpidefnpoaaGreat
namespace Go.Proofs.YtjadnpidefnpoaaGreat
open Go Go.Vc Go.Proofs Go.ChangeShapes Go.RowKit
abbrev i3(fs:List FK):List FK := .int .i64 :: .int .i64 :: .int .i64::fs
theorem J0r{fs:List FK}{cs:List Value}(h:Y09 (i3 fs) cs) :
 ∃(r:RatV) (cs':List Value),cs = .int .i64 r.re :: .int .i64 r.im :: .int .i64 r.den::cs'/\ratI r/\Y09 fs cs':=by
 cases cs with
 | nil=>exact h.elim
 | cons x cs =>
   obtain⟨⟨a,e1,w1⟩,h⟩:=h
   cases cs with
   | nil=>exact h.elim
   | cons y cs =>
     obtain⟨⟨b,e2,w2⟩,h⟩:=h
     cases cs with
     | nil=>exact h.elim
     | cons z cs =>
       obtain⟨⟨c,e3,w3⟩,h⟩:=h
       exact⟨⟨a,b,c⟩,cs,by rw[e1,e2,e3],⟨bounds_i64 w1,bounds_i64 w2,bounds_i64 w3⟩,h⟩
theorem nine{fs:List FK}{cs:List Value}(h:Y09 (i3 (i3 (i3 fs))) cs):∃(a:Arr3) (cs':List Value),cs=a.val.cells.toList++cs'/\arrI a/\Y09 fs cs':=by
 obtain⟨r0,c0,e0,h0,h⟩:=J0r h
 obtain⟨r1,c1,e1,h1,h⟩:=J0r h
 obtain⟨r2,c2,e2,h2,h⟩:=J0r h
 exact⟨⟨r0,r1,r2⟩,c2,by rw[e0,e1,e2]; rfl,⟨h0,h1,h2⟩,h⟩
theorem P0j{cs:List Value}(h:Y09 [] cs):cs=[]:=by
 cases cs with
 | nil=>rfl
 | cons _ _=>exact h.elim
section
variable {H:Type} {enc:TypeId×Value->H} {P:Program} {w:World} {base:Nat} {spare:Nat->Bool} {held:Bool} {t:TypeId} {v:Value} {dd:DataW H} {ps:List MemPlace}
theorem l0f(hk:T0h P 8 t=some (i3 (i3 (i3 (i3 (i3 (i3 (i3 (i3 (i3 []))))))))))(h:DataW.Trod enc P w base spare held t v dd ps):∃x:L05,v=x.val/\lfI x:=by
 obtain⟨a,c,e,ha,h⟩:=nine (j0p hk h)
 obtain⟨b,c1,e1,hb,h⟩:=nine h
 obtain⟨d,c2,e2,hd,h⟩:=nine h
 rw[e1,e2,P0j h,List.append_nil]at e
 exact⟨⟨a,b,d⟩,E0j e (by rintro⟨⟩),ha,hb,hd⟩
end
end Go.Proofs.YtjadnpidefnpoaaGreat
namespace Go.Proofs.YtjadnpidefnpoaaGreat
open Go Go.Vc Go.Proofs
def resD(f:F3)(m:Mk):Cq:=dotP (j0c m.p (m07 f (intQ m.i) (intQ m.j))) (j0c m.p (m07 f (intQ m.i) (intQ m.j)))
def resF(f:F3):Cq->List Mk->Cq
 | a,[]=>a
 | a,m::l=>resF f (if 0<(resD f m).cmp a then resD f m else a) l
def resE(f:F3)(ms:List Mk):Int:=if ms.length=0\/32<ms.length then 4 else if f.real=true then(if ms.all (λm=>m.p.real)=true then 0 else 1)else 1
def resV(f:F3)(ms:List Mk):Cq:=if resE f ms=0 then resF f Cq.zero ms else Cq.zero
theorem a0i(f:F3)(m:Mk):∀(l:List Mk) (a:Cq),resF f a (l++[m])=if 0<(resD f m).cmp (resF f a l)then resD f m else resF f a l
 | [],_=>rfl
 | _::l,_=>a0i f m l _
theorem z0p{ms:List Mk}{t:Nat}{m:Mk}(h:ms[t]?=some m):ms.take (t+1)=ms.take t++[m]:=by rw[List.take_add_one,h]; rfl
structure U0s (V:View) (s:q07) (m:Mk):Prop where
 i:s.i=m.i
 j:s.j=m.j
 p:p0j V s.at_ m.p
def Q0j(V:View)(x:List Value)(m:Mk):Prop:=∃s:q07,x=s.val.cells.toList/\U0s V s m
theorem Q0j.le{V V':View}(hle:V.le V')(x:List Value)(m:Mk)(h:Q0j V x m):Q0j V' x m:=by
 obtain⟨s,e,h1,h2,h3⟩:=h; exact⟨s,e,h1,h2,h3.le hle⟩
def lmC(_:View)(x:List Value)(k:L08):Prop:=x=k.val.cells.toList
def lmM(k:L08):Mk:=⟨k.i,k.j,arrP k.at_⟩
def lmI(k:L08):Prop:=(lmM k).in64/\arrI k.at_
theorem W0s{ks:List L08}(h:∀k∈ks,lmI k):∀m∈ks.map lmM,m.p.szle 64/\m.in64:=by
 intro m hm
 obtain⟨k,hk,rfl⟩:=List.mem_map.1 hm
 exact⟨Z0h (h k hk).2,(h k hk).1⟩
theorem c0m(i j:Int)(r:g01):∀v∈(q07.mk i j r).val.cells.toList,Value.oneCell' v=true:=by
 intro v hv
 rcases List.mem_cons.1 (show v∈Value.int .i64 i :: .int .i64 j::(r.x.val.cells.toList++(r.y.val.cells.toList++r.z.val.cells.toList))from hv)with rfl|hv
 . rfl
 rcases List.mem_cons.1 hv with rfl|hv
 . rfl
 rcases List.mem_append.1 hv with hv|hv
 . exact A0b r.x v hv
 rcases List.mem_append.1 hv with hv|hv
 . exact A0b r.y v hv
 . exact A0b r.z v hv
end Go.Proofs.YtjadnpidefnpoaaGreat
namespace Go.Proofs.YtjadnpidefnpoaaGreat
open Go Go.Vc Go.Proofs Go.ChangeShapes Go.RowKit
theorem X0s{fs:List FK}{cs:List Value}(h:Y09 (.int .i64 :: .int .i64::fs) cs) :
 ∃(i j:Int) (cs':List Value),cs = .int .i64 i :: .int .i64 j::cs'/\((-9223372036854775808<=i/\i<=9223372036854775807)/\(-9223372036854775808<=j/\j<=9223372036854775807))/\Y09 fs cs':=by
 cases cs with
 | nil=>exact h.elim
 | cons x cs =>
   obtain⟨⟨a,e1,w1⟩,h⟩:=h
   cases cs with
   | nil=>exact h.elim
   | cons y cs =>
     obtain⟨⟨b,e2,w2⟩,h⟩:=h
     exact⟨a,b,cs,by rw[e1,e2],⟨bounds_i64 w1,bounds_i64 w2⟩,h⟩
section
variable {H:Type} {enc:TypeId×Value->H} {P:Program} {w:World} {base:Nat} {spare:Nat->Bool} {held:Bool} {t:TypeId} {v:Value} {dd:DataW H} {ps:List MemPlace}
theorem g0l{e:TypeId}(ht:P.underlying t=some (.slice e))(hc:P.cellsOf e=11)(hk:T0h P 8 e=some (.int .i64 :: .int .i64::i3 (i3 (i3 []))))(hv:∃a l c,v = .slice a l c)(h:DataW.Trod enc P w base spare held t v dd ps) :
 ∃(s:Sl) (ks:List L08),v=s.v/\I00 11 lmC (l06 w) s ks/\ks.length<=maxLen/\∀k∈ks,lmI k:=by
 obtain⟨fuel,h⟩:=h
 obtain⟨s,zs,e1,h1,h2,h3⟩:=k0p (α:=L08) ht hc lmI lmC (λ{fuel cs x} g=>by
  obtain⟨i,j,c0,e0,hij,h⟩:=X0s (T0a 8 fuel e _ cs x hk g)
  obtain⟨a,c1,e1,ha,h⟩:=nine h
  exact⟨⟨i,j,a⟩,⟨hij,ha⟩,by rw[e0,e1,P0j h]; simp only[List.append_nil]; rfl⟩) h
 exact⟨s,zs,G0j e1 hv,h1,h2,h3⟩
end
end Go.Proofs.YtjadnpidefnpoaaGreat
namespace Go.Proofs.YtjadnpidefnpoaaGreat
open Go Go.Vc Go.Proofs
theorem B0q(f:Nat->Cq):sq f 0 3=Cq.zero+f 0+f 1+f 2:=rfl
theorem b0i{ms:List Mk}(h:q06 ms≠Cq.zero)(a:Nat)(x:Nat->Cq):Go.Vc.Sys 3 (augN 3 (nrmA ms.length (fitA ms)) (nrmB ms.length (fitA ms) (fitB ms a))) x↔∀i,i<3->x i=fitX ms a i:=by
 have hiff:=N0l (n:=3) (w:=4) (by omega) (by omega) (by omega) (augN 3 (nrmA ms.length (fitA ms)) (nrmB ms.length (fitA ms) (fitB ms a)))
 rw[p0p]at hiff
 exact S0k (n:=3) (hiff.2 h) Cq.zero x
theorem K0r{n:Nat}{A:Nat->Nat->Cq}{b:Nat->Cq}{i k:Nat}(hk:k<n):augN n A b i k=A i k:=by unfold augN o05; rw[if_pos hk]
theorem Y0s{n:Nat}{A:Nat->Nat->Cq}{b:Nat->Cq}{i:Nat}:augN n A b i n=b i:=by unfold augN o05; rw[if_neg (by omega)]
theorem e0e{ms:List Mk}{a:Nat}{x:Nat->Cq}:Go.Vc.Sys 3 (augN 3 (nrmA ms.length (fitA ms)) (nrmB ms.length (fitA ms) (fitB ms a))) x ↔
 ∀i,i<3->Cq.zero+nrmA ms.length (fitA ms) i 0*x 0+nrmA ms.length (fitA ms) i 1*x 1+nrmA ms.length (fitA ms) i 2*x 2=nrmB ms.length (fitA ms) (fitB ms a) i:=by
 unfold Go.Vc.Sys
 constructor<;>intro h i hi<;>have:=h i hi<;>rw[B0q,K0r (by omega),K0r (by omega),K0r (by omega),Y0s]at *<;>assumption
theorem Y0c(ms:List Mk)(r k:Nat):(fitA ms r k).im=0:=by unfold fitA intQ; split<;>(try split)<;>rfl
theorem L0r{f:Nat->Cq}:∀t,(∀r,(f r).im=0)->(sq f 0 t).im=0
 | 0,_=>rfl
 | t+1,h=>by
   have:=L0r t h
   rw[sq,m01,this,h]; grind
theorem c0i(ms:List Mk)(n i k:Nat):(nrmA n (fitA ms) i k).im=0:=L0r n λr=>by
 unfold adjQ
 rw[i01,W0a,f09,Y0c,Y0c]; grind
theorem M0r{ms:List Mk}{a:Nat}(h:∀r,(fitB ms a r).im=0)(n i:Nat):(nrmB n (fitA ms) (fitB ms a) i).im=0:=L0r n λr=>by
 unfold adjQ
 rw[i01,W0a,f09,Y0c,h]; grind
theorem m0f{p:P3}(h:p.real=true)(a:Nat):(w06 p a).im=0:=by
 unfold P3.real at h
 simp only[Bool.and_eq_true,decide_eq_true_eq]at h
 unfold w06; split
 . exact h.1
 . split
   . exact h.2.1
   . exact h.2.2
theorem A0p{ms:List Mk}(h:∀m∈ms,m.p.real=true)(a r:Nat):(fitB ms a r).im=0:=by
 unfold fitB
 rcases Nat.lt_or_ge r ms.length with g|g
 . have e:ms.getD r mkD=ms[r]:=by simp[List.getD,g]
   rw[e]; exact m0f (h _ (List.getElem_mem g)) a
 . have e:ms.getD r mkD=mkD:=by simp[List.getD,g]
   rw[e]; exact m0f rfl a
theorem N0r{ms:List Mk}(h:q06 ms≠Cq.zero)(hr:∀m∈ms,m.p.real=true)(a:Nat){i:Nat}(hi:i<3):(fitX ms a i).im=0:=by
 have hx:=e0e.1 ((b0i h a (fitX ms a)).2 λ_ _=>rfl)
 have hy:=(b0i h a λk=>⟨(fitX ms a k).re,0⟩).1 (e0e.2 λi hi=>by
  have e:=hx i hi
  have e1:=congrArg Cq.re e
  simp only[e01,f01,c0i]at e1
  refine Cq.ext' ?_ ?_
  . simp only[e01,f01,c0i]; grind
  . simp only[m01,i01,c0i,M0r (A0p hr a)]
    show(0:Rat)+_+_+_=0
    grind)
 rw[<-hy i hi]
def E09(f:F3)(a:Nat):Nat->Cq:=λk=>w06 (if k=0 then f.o else if k=1 then f.u else f.v) a
theorem Z0c(f:F3)(i j:Cq)(a:Nat):w06 (m07 f i j) a=E09 f a 0+i*E09 f a 1+j*E09 f a 2:=by
 unfold w06 m07 E09 q0a w06
 by_cases h0:a=0
 . simp[h0]
 . by_cases h1:a=1<;>simp[h0,h1]
theorem S0j{ms:List Mk}{f:F3}{a i:Nat}:∀t,(∀r,r<t->fitB ms a r=w06 (m07 f (intQ (ms.getD r mkD).i) (intQ (ms.getD r mkD).j)) a) ->
 Cq.zero+nrmA t (fitA ms) i 0*E09 f a 0+nrmA t (fitA ms) i 1*E09 f a 1+nrmA t (fitA ms) i 2*E09 f a 2=nrmB t (fitA ms) (fitB ms a) i
 | 0,_=>by
   show Cq.zero+Cq.zero*_+Cq.zero*_+Cq.zero*_=Cq.zero
   refine Cq.ext' ?_ ?_<;>simp only[e01,m01,f01,i01,Cq.zero]<;>grind
 | t+1,h=>by
   have ih:=S0j (f:=f) (i:=i) t λr hr=>h r (by omega)
   have e:=h t (by omega)
   rw[Z0c]at e
   have s1:∀k,nrmA (t+1) (fitA ms) i k=nrmA t (fitA ms) i k+adjQ (fitA ms) i t*fitA ms t k:=λk=>by show sq _ 0 (t+1)=_; rw[sq,Nat.zero_add]; rfl
   have s2:nrmB (t+1) (fitA ms) (fitB ms a) i=nrmB t (fitA ms) (fitB ms a) i+adjQ (fitA ms) i t*fitB ms a t:=by show sq _ 0 (t+1)=_; rw[sq,Nat.zero_add]; rfl
   rw[s1,s1,s1,s2,<-ih,e]
   have f0:fitA ms t 0=intQ 1:=by unfold fitA; rw[if_pos rfl]
   have f1:fitA ms t 1=intQ (ms.getD t mkD).i:=by unfold fitA; rw[if_neg (by decide),if_pos rfl]
   have f2:fitA ms t 2=intQ (ms.getD t mkD).j:=by unfold fitA; rw[if_neg (by decide),if_neg (by decide)]
   rw[f0,f1,f2]
   refine Cq.ext' ?_ ?_<;>simp only[e01,m01,f01,i01,Cq.zero,intQ]<;>grind
theorem B0p{ms:List Mk}{f:F3}(h:q06 ms≠Cq.zero)(e:∀r,r<ms.length->(ms.getD r mkD).p=m07 f (intQ (ms.getD r mkD).i) (intQ (ms.getD r mkD).j)):fitF ms=f:=by
 have k:∀a i,i<3->E09 f a i=fitX ms a i:=λa=>(b0i h a (E09 f a)).1 (e0e.2 λi _=>S0j ms.length λr hr=>by
  show w06 (ms.getD r mkD).p a=_
  rw[<-e r hr])
 unfold fitF
 rw[<-k 0 0 (by omega),<-k 0 1 (by omega),<-k 0 2 (by omega),<-k 1 0 (by omega),<-k 1 1 (by omega),<-k 1 2 (by omega),<-k 2 0 (by omega),<-k 2 1 (by omega),<-k 2 2 (by omega)]
 rfl
def mfA(ms:List Mk)(a:Nat)(r:Nat):M1:=⟨((ms.getD r mkD).i:Rat),((ms.getD r mkD).j:Rat),(fitB ms a r).re⟩
def xfA(f:F3)(a:Nat):X1:=⟨(E09 f a 0).re,(E09 f a 1).re,(E09 f a 2).re⟩
theorem d0m(ms:List Mk)(r:Nat):(fitA ms r 0).re=1:=by unfold fitA; rw[if_pos rfl]; rfl
theorem e0m(ms:List Mk)(r:Nat):(fitA ms r 1).re=((ms.getD r mkD).i:Rat):=by unfold fitA; rw[if_neg (by decide),if_pos rfl]; rfl
theorem f0m(ms:List Mk)(r:Nat):(fitA ms r 2).re=((ms.getD r mkD).j:Rat):=by unfold fitA; rw[if_neg (by decide),if_neg (by decide)]; rfl
theorem n0f(ms:List Mk)(t i k:Nat):(nrmA (t+1) (fitA ms) i k).re=(nrmA t (fitA ms) i k).re+(fitA ms t i).re*(fitA ms t k).re:=by
 show(sq _ 0 (t+1)).re=_
 rw[sq,Nat.zero_add,e01]
 show _+(adjQ (fitA ms) i t*fitA ms t k).re=_
 unfold adjQ
 rw[f01,W0a,f09,Y0c,Y0c]
 show(nrmA t (fitA ms) i k).re+_=_
 grind
theorem C0p(ms:List Mk)(a t i:Nat):(nrmB (t+1) (fitA ms) (fitB ms a) i).re=(nrmB t (fitA ms) (fitB ms a) i).re+(fitA ms t i).re*(fitB ms a t).re:=by
 show(sq _ 0 (t+1)).re=_
 rw[sq,Nat.zero_add,e01]
 show _+(adjQ (fitA ms) i t*fitB ms a t).re=_
 unfold adjQ
 rw[f01,W0a,f09,Y0c]
 show(nrmB t (fitA ms) (fitB ms a) i).re+_=_
 grind
def rowR(ms:List Mk)(f:F3)(a t i:Nat):Rat:=(nrmA t (fitA ms) i 0).re*(E09 f a 0).re+(nrmA t (fitA ms) i 1).re*(E09 f a 1).re+(nrmA t (fitA ms) i 2).re*(E09 f a 2).re-(nrmB t (fitA ms) (fitB ms a) i).re
theorem o0f(ms:List Mk)(f:F3)(a i:Nat):rowR ms f a 0 i=0:=by
 show(0:Rat)*_+0*_+0*_-0=0
 grind
theorem p0f(ms:List Mk)(f:F3)(a t i:Nat):rowR ms f a (t+1) i=rowR ms f a t i+(fitA ms t i).re*errX (xfA f a) (mfA ms a t):=by
 unfold rowR errX xfA mfA
 rw[n0f,n0f,n0f,C0p,d0m,e0m,f0m]
 grind
theorem g0m(ms:List Mk)(f:F3)(a:Nat):∀t,nor0 (xfA f a) (mfA ms a) t=rowR ms f a t 0
 | 0=>(o0f ms f a 0).symm
 | t+1=>by rw[nor0,g0m ms f a t,p0f,d0m]; grind
theorem i0m(ms:List Mk)(f:F3)(a:Nat):∀t,nor1 (xfA f a) (mfA ms a) t=rowR ms f a t 1
 | 0=>(o0f ms f a 1).symm
 | t+1=>by rw[nor1,i0m ms f a t,p0f,e0m]; rfl
theorem j0m(ms:List Mk)(f:F3)(a:Nat):∀t,nor2 (xfA f a) (mfA ms a) t=rowR ms f a t 2
 | 0=>(o0f ms f a 2).symm
 | t+1=>by rw[nor2,j0m ms f a t,p0f,f0m]; rfl
def mkF(X:Nat->Nat->Cq):F3:=⟨⟨X 0 0,X 1 0,X 2 0⟩,⟨X 0 1,X 1 1,X 2 1⟩,⟨X 0 2,X 1 2,X 2 2⟩⟩
theorem C0q(X:Nat->Nat->Cq){a:Nat}(ha:a<3)(k:Nat)(hk:k<3):E09 (mkF X) a k=X a k:=by
 rcases (show a=0\/a=1\/a=2 by omega)with rfl|rfl|rfl<;>rcases (show k=0\/k=1\/k=2 by omega)with rfl|rfl|rfl<;>rfl
theorem D0p(ms:List Mk):fitF ms=mkF (fitX ms):=by unfold fitF mkF; rfl
theorem q0f(ms:List Mk){a:Nat}(ha:a<3)(k:Nat)(hk:k<3):E09 (fitF ms) a k=fitX ms a k:=by rw[D0p,C0q _ ha k hk]
theorem a0d{ms:List Mk}(h:q06 ms≠Cq.zero){a:Nat}(ha:a<3){i:Nat}(hi:i<3):rowR ms (fitF ms) a ms.length i=0:=by
 have hx:=e0e.1 ((b0i h a (fitX ms a)).2 λ_ _=>rfl) i hi
 have e1:=congrArg Cq.re hx
 simp only[e01,f01,c0i,Cq.zero]at e1
 unfold rowR
 rw[q0f ms ha 0 (by omega),q0f ms ha 1 (by omega),q0f ms ha 2 (by omega)]
 grind
theorem s0f{ms:List Mk}(h:q06 ms≠Cq.zero){a:Nat}(ha:a<3)(g:F3):sumX (xfA (fitF ms) a) (mfA ms a) ms.length<=sumX (xfA g a) (mfA ms a) ms.length :=
 f0p (by rw[g0m]; exact a0d h ha (by omega)) (by rw[i0m]; exact a0d h ha (by omega)) (by rw[j0m]; exact a0d h ha (by omega)) _
theorem k0m{ms:List Mk}(h:q06 ms≠Cq.zero)(hr:∀m∈ms,m.p.real=true):(fitF ms).real=true:=by
 have k:∀a i,i<3->(fitX ms a i).im=0:=λa i hi=>N0r h hr a hi
 unfold F3.real P3.real fitF
 simp only[Bool.and_eq_true,decide_eq_true_eq]
 exact⟨⟨k _ _ (by omega),k _ _ (by omega),k _ _ (by omega)⟩,⟨k _ _ (by omega),k _ _ (by omega),k _ _ (by omega)⟩,k _ _ (by omega),k _ _ (by omega),k _ _ (by omega)⟩
def E0p(f:F3)(m:Mk):Cq:=dotP (j0c (m07 f (intQ m.i) (intQ m.j)) m.p) (j0c (m07 f (intQ m.i) (intQ m.j)) m.p)
def t0f(f:F3)(ms:List Mk):Nat->Cq
 | 0=>Cq.zero
 | t+1=>t0f f ms t+E0p f (ms.getD t mkD)
theorem U0a{f:F3}(h:f.real=true)(a k:Nat):(E09 f a k).im=0:=by
 unfold F3.real at h
 simp only[Bool.and_eq_true]at h
 unfold E09
 split
 . exact m0f h.1 a
 . split
   . exact m0f h.2.1 a
   . exact m0f h.2.2 a
theorem F0p(p q:P3)(a:Nat):w06 (j0c p q) a=w06 p a+i0c*w06 q a:=by
 unfold w06 j0c q0a
 by_cases h0:a=0
 . simp[h0]
 . by_cases h1:a=1<;>simp[h0,h1]
theorem D0q(p:P3):dotP p p=w06 p 0*w06 p 0+w06 p 1*w06 p 1+w06 p 2*w06 p 2:=rfl
theorem d0i{ms:List Mk}{f:F3}(h:f.real=true)(hm:∀m∈ms,m.p.real=true)(t a:Nat) :
 w06 (j0c (m07 f (intQ (ms.getD t mkD).i) (intQ (ms.getD t mkD).j)) (ms.getD t mkD).p) a=⟨errX (xfA f a) (mfA ms a t),0⟩:=by
 have e:w06 (ms.getD t mkD).p a=fitB ms a t:=rfl
 rw[F0p,Z0c,e]
 have i0:=U0a h a 0; have i1:=U0a h a 1; have i2:=U0a h a 2
 have ib:=A0p hm a t
 refine Cq.ext' ?_ ?_
 . simp only[e01,f01,intQ,i0c,errX,xfA,mfA]
   have:((-1:Int):Rat) = -1:=rfl
   rw[this]; grind
 . simp only[m01,i01,intQ,i0c,i0,i1,i2,ib]; grind
theorem f0e{ms:List Mk}{f:F3}(h:f.real=true)(hm:∀m∈ms,m.p.real=true):∀t,t0f f ms t=⟨sumX (xfA f 0) (mfA ms 0) t+sumX (xfA f 1) (mfA ms 1) t+sumX (xfA f 2) (mfA ms 2) t,0⟩
 | 0=>by
   refine Cq.ext' ?_ rfl
   show(0:Rat)=0+0+0
   grind
 | t+1=>by
   rw[t0f,f0e h hm t]
   unfold E0p
   rw[D0q,d0i h hm,d0i h hm,d0i h hm]
   refine Cq.ext' ?_ ?_
   . simp only[e01,f01,sumX]; grind
   . simp only[m01,i01]; grind
theorem P0n{ms:List Mk}{g:F3}(h:q06 ms≠Cq.zero)(hm:∀m∈ms,m.p.real=true)(hg:g.real=true):(t0f (fitF ms) ms ms.length).re<=(t0f g ms ms.length).re:=by
 rw[f0e (k0m h hm) hm,f0e hg hm]
 have h0:=s0f h (a:=0) (by omega) g
 have h1:=s0f h (a:=1) (by omega) g
 have h2:=s0f h (a:=2) (by omega) g
 show sumX _ _ _+sumX _ _ _+sumX _ _ _<=sumX _ _ _+sumX _ _ _+sumX _ _ _
 grind
theorem G0p{ms:List Mk}{f:F3}(h:f.real=true)(hm:∀m∈ms,m.p.real=true)(t:Nat):(t0f f ms t).im=0:=by rw[f0e h hm]
theorem l0m{f:F3}{m:Mk}(hf:f.szle 64)(hm:m.p.szle 400)(hi:m.in64):(resD f m).sz<=6000:=by
 have h1:=s0a hf (H03 hi.1) (H03 hi.2)
 have h2:=l0c hm h1
 exact Nat.le_trans (T0k h2 h2) (by omega)
theorem m0m{f:F3}(hf:f.szle 64):∀(l:List Mk) (a:Cq),a.sz<=6000->(∀m∈l,m.p.szle 400/\m.in64)->(resF f a l).sz<=6000
 | [],_,ha,_=>ha
 | m::l,a,ha,h=>by
   unfold resF
   refine m0m hf l _ ?_ (λm' hm=>h m' (by simp[hm]))
   split
   . exact l0m hf (h m (by simp)).1 (h m (by simp)).2
   . exact ha
theorem Y0f{V:View}{s:z01}{q:Sl}{f:F3}{ms:List Mk}(h:w04 V s f)(hm:C0a V q ms)(hf:f.szle 64)(hz:∀m∈ms,m.p.szle 400)(hi:∀m∈ms,m.in64) :
 a00 Tryz.prog D0e #[s.val,q.v] V λv V'=>∃r:NumV,v = .tuple #[r.val,.int .i64 (resE f ms)]/\N00 V' r (resV f ms):=by
 have hl:q.len=ms.length:=hm.len
 have nil:∀(e:Int) (V':View),resE f ms=e->e≠0->∃r:NumV,Value.tuple #[zN.val,.int .i64 e]=Value.tuple #[r.val,.int .i64 (resE f ms)]/\N00 V' r (resV f ms):=λe V' he h0=>by
  unfold resV; rw[he,if_neg h0]; exact⟨_,rfl,N00.zero V'⟩
 refine I0d s q V _ (λ_ _ _=>1<=ms.length/\ms.length<=32)
  (λ_ x V'=>∃t:Nat,x.t26=t/\t<=ms.length/\(∀m∈ms.take t,m.p.real=true)/\N00 V' x.o6 (resF f Cq.zero (ms.take t))) (λ_ x _=>ms.length-x.t26.toNat) ?_
 rw[hl]
 refine⟨⟨λc=>nil 4 V ?_ (by decide),λc=>⟨λc'=>nil 4 V ?_ (by decide),λc' => ?_⟩⟩,?_⟩
 . unfold resE; rw[if_pos (.inl (by simpa using c))]
 . unfold resE; rw[if_pos (.inr (by simp at c'; omega))]
 . have c:ms.length≠0:=by simpa using c
   exact⟨by omega,by simp at c'; omega⟩
 rintro⟨o4⟩ V1 l1 ⟨n1,n2⟩
 have eE:resE f ms=if f.real=true then(if ms.all (λm=>m.p.real)=true then 0 else 1)else 1:=by unfold resE; rw[if_neg (by omega)]
 refine(g07 (h.le l1)).mono λv V2 l2 hv=>⟨_,hv,λc => ?_,λc=>⟨?_,?_⟩⟩
 . have c:f.real=false:=by simpa using c
   exact nil 1 V2 (by rw[eE,c]; rfl) (by decide)
 . exact⟨0,rfl,by omega,by simp,N00.zero V2⟩
 have c:f.real=true:=by simpa using c
 rw[if_pos c]at eE
 have L2:=View.le_trans l1 l2
 rintro⟨t26,o4',o6⟩ V3 l3 ⟨t,et,ht,hr,h6⟩
 dsimp only at et h6 ⊢
 subst et
 have L3:=View.le_trans L2 l3
 refine⟨λhlt => ?_,λhge => ?_⟩
 . have hk:t<ms.length:=by simp at hlt; omega
   have ek:ms[t]?=some ms[t]:=List.getElem?_eq_getElem hk
   have hmem:=List.getElem_mem hk
   obtain⟨g,x,⟨y,rfl,hy⟩,_,hh,hs⟩:=I00.get (hm.le L3) (t:=(t:Int)) (by omega) (z:=ms[t]) (by rw[Int.toNat_natCast]; exact ek)
   rw[hl]at g
   have tk:=z0p ek
   generalize ms[t]=m at *
   have zm:=hz m hmem
   have zi:=hi m hmem
   refine⟨g,y,hh,hs,λb1 V4 l4 _ hb1=>(I0j (hy.p.le l4) hb1).mono λv V5 l5 hv=>⟨_,hv,λc => ?_,λc => ?_⟩⟩
   . have c:m.p.real=false:=by simpa using c
     refine nil 1 V5 ?_ (by decide)
     rw[eE,if_neg]
     intro g
     rw[List.all_eq_true]at g
     rw[g m hmem]at c
     exact absurd c (by decide)
   have c:m.p.real=true:=by simpa using c
   have L5:=View.le_trans l4 l5
   rw[hy.i,hy.j]
   refine(e09 zi.1.1 zi.1.2).mono λv V6 l6 ⟨r3,hv,h3⟩=>⟨r3,hv,(e09 zi.2.1 zi.2.2).mono λv V7 l7 ⟨r4,hv,h4⟩=>⟨r4,hv,?_⟩⟩
   have h3:N00 V6 r3 (intQ m.i):=h3
   have h4:N00 V7 r4 (intQ m.j):=h4
   have L7:=View.le_trans L5 (View.le_trans l6 l7)
   refine(N0g (h.le (View.le_trans L3 L7)) (h3.le l7) h4 hf (H03 zi.1) (H03 zi.2) (by omega)).mono λv V8 l8 ⟨r5,hv,h5⟩=>⟨r5,hv,?_⟩
   have zp:=s0a hf (H03 zi.1) (H03 zi.2)
   refine(n0p (hy.p.le (View.le_trans L7 l8)) h5 zm zp (by omega)).mono λv V9 l9 ⟨r6,hv,h6'⟩=>⟨r6,hv,?_⟩
   have zl:=l0c zm zp
   refine(a0m h6' h6' zl zl (by omega)).mono λv V10 l10 ⟨r7,hv,h7⟩=>⟨r7,hv,?_⟩
   have L10:=View.le_trans L7 (View.le_trans l8 (View.le_trans l9 l10))
   have h7:N00 V10 r7 (resD f m):=h7
   have zd:=l0m hf zm zi
   have zr:(resF f Cq.zero (ms.take t)).sz<=6000:=m0m hf _ _ (Nat.le_trans x06 (by omega)) (λm' h'=>⟨hz m' (List.mem_of_mem_take h'),hi m' (List.mem_of_mem_take h')⟩)
   have real':∀m'∈ms.take (t+1),m'.p.real=true:=λm' h'=>by
    rw[tk]at h'
    rcases List.mem_append.1 h' with h'|h'
    . exact hr m' h'
    . rw[show m'=m by simpa using h']; exact c
   rw[i64w (by omega) (by omega)]
   refine(Z06 h7 (h6.le L10) (by omega) (by omega)).mono λv V11 l11 hv=>⟨_,hv,λd=>⟨⟨t+1,by omega,by omega,real',?_⟩,by omega⟩,λd=>⟨⟨t+1,by omega,by omega,real',?_⟩,by omega⟩⟩
   . rw[tk,a0i,if_pos (of_decide_eq_true d)]; exact h7.le l11
   . rw[tk,a0i,if_neg (of_decide_eq_false d)]; exact h6.le (View.le_trans L10 l11)
 . have e:t=ms.length:=by simp at hge; omega
   subst e
   rw[List.take_length]at hr h6
   have e0:resE f ms=0:=by rw[eE,if_pos (by rw[List.all_eq_true]; exact hr)]
   unfold resV
   rw[e0]
   exact⟨o6,rfl,h6⟩
theorem E0q{n S:Nat}{A:Nat->Nat->Cq}{b:Nat->Cq}(hn:n<=32)(hA:∀i j,i<n->j<n->(A i j).sz<=S)(hB:∀i,i<n->(b i).sz<=S)
 (hS:(S+2)*6^n+n*((S+2)*6^n+Xb ((S+2)*6^n) n+2)<=2^36) (hX:Xb ((S+2)*6^n) n<=2^36):∀i,i<n->(n05 numO Cq.zero (elim numO n (n+1) (augN n A b)).1 n n i).sz<=Xb ((S+2)*6^n) n:=by
 have q0:∀ {z:Cq},z.sz<=S->qN S 0 z:=λhz=>by unfold qN; rw[Nat.pow_zero]; omega
 have qT:∀ {z:Cq},qN S n z->z.sz<=(S+2)*6^n:=λhz=>by unfold qN at hz; omega
 have hk:=Z0l (T:=(S+2)*6^n) hS hX
 have hk':u0q n (qN S n) (λj i s=>s.sz<=(S+2)*6^n+i*((S+2)*6^n+Xb ((S+2)*6^n) j+2)) (λj x=>x.sz<=Xb ((S+2)*6^n) j) :=
  ⟨λj x hj hx=>hk.r0 j x hj (qT hx),λj i s a x hj hi hs ha hx=>hk.r1 j i s a x hj hi hs (qT ha) hx,λj s a hj hs ha=>hk.r2 j s a hj hs (qT ha),hk.r3,λx hx=>hk.k1 x (qT hx),hk.k2,hk.k3⟩
 unfold augN
 intro i hi
 have hBQ:∀i j,i<n->j<n+1->qN S n ((elim numO n (n+1) (o05 A n λ_ i=>b i)).1 i j):=f0c numO (qN S) n (n+1) qN_2 qN_3 n 0 _ 0 (by omega) (by omega) λi j hi hj=>by
  show qN S 0 (if j<n then A i j else b i)
  split
  . exact q0 (hA i j hi (by assumption))
  . exact q0 (hB i hi)
 have key:∀j,j<=n->∀i,n-j<=i->i<n->(n05 numO Cq.zero (elim numO n (n+1) (o05 A n λ_ i=>b i)).1 n j i).sz<=Xb ((S+2)*6^n) j:=by
  intro j
  induction j with
  | zero=>intro _ i h1 h2; omega
  | succ j ih =>
    intro hj i h1 h2
    have ih:=ih (by omega)
    simp only[n05]
    by_cases e:i=n-(j+1)
    . rw[if_pos e]
      refine hk'.r2 j _ _ (by omega) ?_ (hBQ _ _ (by omega) (by omega))
      have bs:∀k,k<=j->(U0e numO (elim numO n (n+1) (o05 A n λ_ i=>b i)).1 (n05 numO Cq.zero (elim numO n (n+1) (o05 A n λ_ i=>b i)).1 n j) (n-(j+1)) n k).sz<=(S+2)*6^n+k*((S+2)*6^n+Xb ((S+2)*6^n) j+2):=by
       intro k
       induction k with
       | zero=>intro _; exact hk'.r0 j _ (by omega) (hBQ _ _ (by omega) (by omega))
       | succ k ihk=>intro hkj; exact hk'.r1 j k _ _ _ (by omega) (by omega) (ihk (by omega)) (hBQ _ _ (by omega) (by omega)) (ih _ (by omega) (by omega))
      exact bs j (Nat.le_refl j)
    . rw[if_neg e]; exact hk'.r3 j _ (by omega) (ih i (by omega) h2)
 exact key n (Nat.le_refl n) i (by omega) hi
theorem e0i{ms:List Mk}(P:Mk->Prop)(h:∀m∈ms,P m)(h0:P mkD)(r:Nat):P (ms.getD r mkD):=by
 rcases Nat.lt_or_ge r ms.length with g|g
 . have e:ms.getD r mkD=ms[r]:=by simp[List.getD,g]
   rw[e]; exact h _ (List.getElem_mem g)
 . have e:ms.getD r mkD=mkD:=by simp[List.getD,g]
   rw[e]; exact h0
theorem E0b{n:Nat}(hn:n<=20):(1+n*(2*64+2)+2)*6^3+3*((1+n*(2*64+2)+2)*6^3+Xb ((1+n*(2*64+2)+2)*6^3) 3+2)<=2^36/\Xb ((1+n*(2*64+2)+2)*6^3) 3<=2^27:=by
 have hT:(1+n*(2*64+2)+2)*6^3<=563000:=by omega
 generalize (1+n*(2*64+2)+2)*6^3=T at *
 have e:Xb T 3<=204*T+408:=by simp only[Xb]; omega
 omega
theorem F0q{ms:List Mk}(hi:∀m∈ms,m.in64)(hz:∀m∈ms,m.p.szle 64)(hn:ms.length<=20):(fitF ms).szle (2^27):=by
 have hA:∀r k,r<ms.length->k<3->(fitA ms r k).sz<=64:=λr k _ _=>q0p hi r k
 have z0:mkD.p.szle 64:=by
  have:=x06
  exact⟨Nat.le_trans this (by decide),Nat.le_trans this (by decide),Nat.le_trans this (by decide)⟩
 have hB:∀a r,r<ms.length->(fitB ms a r).sz<=64:=λa r _=>by
  have:=e0i (λm=>m.p.szle 64) hz z0 r
  unfold fitB w06
  obtain⟨h1,h2,h3⟩:=this
  split
  . exact h1
  . split
    . exact h2
    . exact h3
 have k:∀a i,i<3->(fitX ms a i).sz<=2^27:=λa i hi3=>Nat.le_trans (E0q (n:=3) (S:=1+ms.length*(2*64+2)) (A:=nrmA ms.length (fitA ms)) (b:=nrmB ms.length (fitA ms) (fitB ms a)) (by omega)
  (λi j hi hj=>b0l (w:=3) hA ms.length (Nat.le_refl _) i j hi hj) (λi hi=>c0l (w:=3) hA (hB a) ms.length (Nat.le_refl _) i hi) (E0b hn).1 (Nat.le_trans (E0b hn).2 (by decide)) i hi3) (E0b hn).2
 rw[D0p]
 exact⟨⟨k _ _ (by omega),k _ _ (by omega),k _ _ (by omega)⟩,⟨k _ _ (by omega),k _ _ (by omega),k _ _ (by omega)⟩,⟨k _ _ (by omega),k _ _ (by omega),k _ _ (by omega)⟩⟩
theorem g0e{f:F3}{ms:List Mk}(hf:f.szle (2^27))(hz:∀m∈ms,m.p.szle 64)(hi:∀m∈ms,m.in64):∀t,(t0f f ms t).sz<=1+t*2500000000
 | 0=>by have:=x06; show Cq.zero.sz<=_; omega
 | t+1=>by
   have ih:=g0e hf hz hi t
   have z0:mkD.p.szle 64:=by
    have:=x06
    exact⟨Nat.le_trans this (by decide),Nat.le_trans this (by decide),Nat.le_trans this (by decide)⟩
   have i0:mkD.in64:=⟨by decide,by decide⟩
   have zm:=e0i (λm=>m.p.szle 64) hz z0 t
   have im:=e0i (λm=>m.in64) hi i0 t
   have h1:=s0a hf (H03 im.1) (H03 im.2)
   have h2:=l0c h1 zm
   have h3:=T0k h2 h2
   have h4:=E05 (t0f f ms t) (E0p f (ms.getD t mkD))
   show(t0f f ms t+E0p f (ms.getD t mkD)).sz<=_
   unfold E0p at *
   omega
theorem T0j{V:View}{s:z01}{q:Sl}{f:F3}{ms:List Mk}(h:w04 V s f)(hm:C0a V q ms)(hf:f.szle (2^27))(h1:1<=ms.length)(hz:∀m∈ms,m.p.szle 64)(hi:∀m∈ms,m.in64)(hn:ms.length<=20) :
 a00 Tryz.prog X0a #[s.val,q.v] V λv V'=>∃(r:NumV) (b:Bool),v = .tuple #[r.val,.bool b]/\b=f.real/\(b=true->N00 V' r (t0f f ms ms.length)):=by
 have hl:q.len=ms.length:=hm.len
 refine m0a s q V _ (λ_ x V'=>∃t:Nat,x.t14=t/\t<=ms.length/\N00 V' x.o6 (t0f f ms t)/\(0<t->f.real=true)) (λ_ x _=>ms.length-x.t14.toNat) ?_
 rw[hl]
 refine(D04 (n:=0) (by decide) (by decide)).mono λv V1 l1 ⟨r1,hv,hz0⟩=>⟨r1,hv,⟨0,rfl,by omega,hz0,λx=>absurd x (by omega)⟩,?_⟩
 rintro⟨t14,o4,o6⟩ V2 l2 ⟨t,et,ht,hs,hre⟩
 dsimp only at et hs ⊢
 subst et
 have L2:=View.le_trans l1 l2
 refine⟨λhlt => ?_,λhge => ?_⟩
 . have hk:t<ms.length:=by have:=of_decide_eq_true hlt; omega
   have ek:ms[t]?=some (ms.getD t mkD):=B09 hk
   have hmem:ms.getD t mkD∈ms:=List.mem_of_getElem? ek
   obtain⟨g,x,⟨y,rfl,hy⟩,_,hh,hs2⟩:=I00.get (hm.le L2) (t:=(t:Int)) (by omega) (z:=ms.getD t mkD) (by rw[Int.toNat_natCast]; exact ek)
   rw[hl]at g
   have zm:=hz _ hmem
   have im:=hi _ hmem
   have zc:=g0e hf hz hi t
   have zc':t*2500000000<=20*2500000000:=Nat.mul_le_mul_right _ (by omega)
   refine⟨g,y,hh,hs2,?_⟩
   rw[hy.i,hy.j]
   refine(D04 im.1.1 im.1.2).mono λv V3 l3 ⟨r2,hv,h2⟩=>⟨r2,hv,(D04 im.2.1 im.2.2).mono λv V4 l4 ⟨r3,hv,h3⟩=>⟨r3,hv,?_⟩⟩
   have h2:N00 V3 r2 (intQ (ms.getD t mkD).i):=h2
   have h3:N00 V4 r3 (intQ (ms.getD t mkD).j):=h3
   have L4:=View.le_trans L2 (View.le_trans l3 l4)
   have ok:C0b f (intQ (ms.getD t mkD).i) (intQ (ms.getD t mkD).j)=f.real:=by unfold C0b; show(f.real&&true)=_; rw[Bool.and_true]
   refine(O0g (h.le L4) (h2.le l4) h3 hf (H03 im.1) (H03 im.2) (by decide)).mono λv V5 l5 ⟨r4,hv,h4⟩=>⟨r4,_,hv,λc => ?_,λ_ => ?_⟩
   . have c:f.real=false:=by
       cases e:f.real with
       | false=>rfl
       | true=>rw[if_pos (ok.trans e)]at c; simp at c
     exact⟨o6,false,rfl,c.symm,λx=>absurd x (by simp)⟩
   rename_i c0
   have hr:f.real=true:=by
    cases e:f.real with
    | true=>rfl
    | false=>rw[if_neg (by rw[ok,e]; simp)]at c0; simp at c0
   rw[if_pos (ok.trans hr)]at h4
   have h1:=s0a hf (H03 im.1) (H03 im.2)
   have d3:=T0k (l0c h1 zm) (l0c h1 zm)
   have L5:=View.le_trans l3 (View.le_trans l4 l5)
   refine(P0d h4 (hy.p.le L5) h1 zm (by decide)).mono λv V6 l6 ⟨r6,hv,h6⟩=>⟨r6,hv,?_⟩
   refine(O03 (hs.le (View.le_trans L5 l6)) h6 (by omega) (by omega)).mono λv V7 l7 ⟨r7,hv,h7⟩=>⟨r7,hv,?_⟩
   rw[i64w (by omega) (by omega)]
   exact⟨⟨t+1,by omega,by omega,h7,λ_=>hr⟩,by omega⟩
 . have e:t=ms.length:=by have:=of_decide_eq_false hge; omega
   subst e
   exact⟨o6,true,rfl,(hre (by omega)).symm,λ_=>hs⟩
theorem U0j{V:View}{s:Sl}{ks:List L08}(h:I00 11 lmC V s ks)(hi:∀k∈ks,lmI k)(hn:ks.length<=2^20) :
 p0m Tryz.prog f0a #[s.v] U0i V λn cap o rest V'=>∃(r2:Sl) (l:List Value),rest=[r2.v]/\Z03 17 n cap o l/\n=ks.length/\s01 17 a0b V' l (ks.map lmM):=by
 have hl:s.len=ks.length:=h.len
 refine P07 s V _ (λ_ x V'=>∃(t:Nat) (l4 l5:List Value),x.t12=t/\t<=ks.length/\Z03 17 x.t4l x.t4c x.o4 l4/\x.t4l=t/\s01 17 a0b V' l4 ((ks.take t).map lmM)/\Z03 17 x.t5l x.t5c x.o5 l5/\x.t5l=t/\s01 17 Q0j V' l5 ((ks.take t).map lmM))
  (λ_ x _=>ks.length-x.t12.toNat) ⟨⟨0,[],[],rfl,by omega,Z03.nil,rfl,rfl,Z03.nil,rfl,rfl⟩,?_⟩
 rintro⟨t4l,t4c,t5l,t5c,t12,o4,o5⟩ V1 l1 ⟨t,l4,l5,et,ht,hL4,e4,hC4,hL5,e5,hC5⟩
 dsimp only at et hL4 e4 hC4 hL5 e5 hC5 ⊢
 subst et; subst e4
 obtain rfl:t5l=t4l:=e5
 rw[hl]
 refine⟨λhlt => ?_,λhge => ?_⟩
 . have hk:t5l<ks.length:=by simp at hlt; omega
   have ek:ks[t5l]?=some ks[t5l]:=List.getElem?_eq_getElem hk
   have hi1:=hi _ (List.getElem_mem hk)
   obtain⟨g,x,hx,_,hh,hs⟩:=I00.get (I00.le (V:=V) (V':=V1) (P:=lmC) (λ_ _ e=>e) l1 h) (t:=(t5l:Int)) (by omega) (z:=ks[t5l]) (by rw[Int.toNat_natCast]; exact ek)
   rw[hl]at g
   have tm:=A0q (f:=lmM) ek
   generalize ks[t5l]=k at *
   subst hx
   refine⟨g,k,hh,hs,(o08 hi1.2).mono λv V2 l2 ⟨r1,r2,hv,a1,a2⟩=>⟨r1,r2,hv,λb1 V3 l3 _ hb1 => ?_⟩⟩
   refine⟨l4,(q07.mk k.i k.j r1).val.cells.toList,hL4,d0f hb1,rfl,c0m _ _ _,by unfold maxLen; omega,by omega,λc1 l3' hl3 b2 V4 l4' _ hb2 => ?_⟩
   refine⟨l5,(q07.mk k.i k.j r2).val.cells.toList,hL5,d0f hb2,rfl,c0m _ _ _,by unfold maxLen; omega,by omega,λc2 l6' hl6 => ?_⟩
   rw[i64w (by omega) (by omega)]
   have L24:=View.le_trans l3 l4'
   have L14:=View.le_trans l2 L24
   refine⟨⟨t5l+1,_,_,by omega,by omega,hl3,rfl,?_,hl6,rfl,?_⟩,by omega⟩
   . rw[tm]
     exact(hC4.imp (a0b.le L14)).append (s01.one rfl ⟨_,rfl,rfl,rfl,a1.le L24⟩)
   . rw[tm]
     exact(hC5.imp (Q0j.le L14)).append (s01.one rfl ⟨_,rfl,rfl,rfl,a2.le L24⟩)
 . have e:t5l=ks.length:=by simp at hge; omega
   subst e
   rw[List.take_length]at hC4 hC5
   intro b4 V9 l9 hb4
   exact⟨_,l4,rfl,hL4,rfl,hC4.imp (a0b.le l9)⟩
structure RegM (m V:View) (s:Sl) (ms:List Mk):Prop where
 apart:m.apart V
 lst:∃(b:Nat) (o l:List Value),s.a=lstA b s.cap/\Z03 17 s.len s.cap o l/\s.len=ms.length/\(o≠[]->m b=some o.toArray)/\s01 17 a0b V l ms
theorem RegM.at{m V:View}{s:Sl}{ms:List Mk}(h:RegM m V s ms):C0a (t05 m V) s ms:=by
 obtain⟨b,o,l,e,hL,hn,hb,hC⟩:=h.lst
 have:s=⟨lstA b s.cap,s.len,s.cap⟩:=by rw[<-e]
 rw[this]
 exact B07 hL (λx=>p08 (hb x)) (hC.imp (a0b.le (d0d h.apart))) hn
theorem RegM.le{m V V':View}{s:Sl}{ms:List Mk}(h:RegM m V s ms)(hle:View.le V V')(ha:m.apart V'):RegM m V' s ms:=by
 obtain⟨b,o,l,e,hL,hn,hb,hC⟩:=h.lst
 exact⟨ha,b,o,l,e,hL,hn,hb,hC.imp (a0b.le hle)⟩
theorem RegM.len{m V:View}{s:Sl}{ms:List Mk}(h:RegM m V s ms):s.len=ms.length:=h.lst.elim λ_ h=>h.elim λ_ h=>h.elim λ_ h=>h.2.2.1
theorem RegM.get{m V:View}{s:Sl}{ms:List Mk}(h:RegM m V s ms){t:Nat}{z:Mk}(hz:ms[t]?=some z) :
 ((0:Int)<=(t:Int)/\((t:Int))<(s.len:Nat)/\Option.isSome s.a=true) /\
 ∃y:q07,X0q V y z/\has2 m V (Option.map (λq=>Addr.add q (Int.toNat (t:Int)*17)) s.a) y.val.cells.toList/\Option.isSome (Option.map (λq=>Addr.add q (Int.toNat (t:Int)*17)) s.a)=true:=by
 obtain⟨b,o,l,e,hL,hn,hb,hC⟩:=h.lst
 have es:s=⟨lstA b s.cap,s.len,s.cap⟩:=by rw[<-e]
 have hA:I00 17 (λ_ x z=>a0b V x z) m s ms:=by
  rw[es]; exact B07 hL hb (s01.imp (P':=λ_ x z=>a0b V x z) (V':=m) (λ_ _ h=>h) hC) hn
 obtain⟨g1,x,⟨y,rfl,hy⟩,_,g2,g3⟩:=I00.get hA (t:=(t:Int)) (by omega) (z:=z) (by rw[Int.toNat_natCast]; exact hz)
 exact⟨g1,y,hy,.inl g2,g3⟩
theorem i0l{β:Type}{l:List β}{off:Nat}{a b:β}(h0:l[off]?=some a)(h1:l[off+1]?=some b)(vs:List β):setL l off (a::b::vs)=setL l (off+2) vs:=by
 have set_same:∀ {k:Nat} {x:β},l[k]?=some x->l.set k x=l:=λ{k x} h=>by
  refine List.ext_getElem? λi => ?_
  rw[List.getElem?_set]
  by_cases e:k=i
  . subst e
    rw[if_pos rfl]
    rcases Nat.lt_or_ge k l.length with g|g
    . rw[if_pos g,h]
    . rw[List.getElem?_eq_none g]at h; simp at h
  . rw[if_neg e]
 show setL ((l.set off a).set (off+1) b) (off+2) vs=_
 rw[set_same h0,set_same h1]
theorem RegM.put{m V:View}{s:Sl}{ms:List Mk}(h:RegM m V s ms){t:Nat}{z:Mk}(hz:ms[t]?=some z) :
 ∃(b c:Nat) (o:List Value),Option.map (λq=>Addr.add q 2) (Option.map (λq=>Addr.add q (Int.toNat (t:Int)*17)) s.a)=some (Addr.mk b c none)/\m b=some o.toArray/\c+15<=o.length /\
  ∀(V':View) (p:g01) (q:P3),View.le V V'->m.apart V'->x03 V' p q->RegM (q00 m b (setL o c (p.x.val.cells.toList++(p.y.val.cells.toList++p.z.val.cells.toList))).toArray) V' s (ms.set t ⟨z.i,z.j,q⟩):=by
 obtain⟨b,o,l,e,hL,hn,hb,hC⟩:=h.lst
 have ht:t<ms.length:=by
  rcases Nat.lt_or_ge t ms.length with g|g
  . exact g
  . rw[List.getElem?_eq_none g]at hz; simp at hz
 have hcap:s.cap≠0:=by have:=hL.le; omega
 have room:=hC.room ht
 have hlen:l.length<=o.length:=by rw[<-hL.take,List.length_take]; omega
 have hne:o≠[]:=λx=>by rw[x]at hlen; simp at hlen; subst hlen; simp at room
 obtain⟨o',eo⟩:=hL.split
 obtain⟨x,⟨y,rfl,hy⟩,hx,hg⟩:=hC.get hz
 refine⟨b,t*17+2,o,?_,hb hne,by omega,λV' p q hle ha hp => ?_⟩
 . rw[e]; unfold lstA; rw[if_neg hcap,Int.toNat_natCast]
   show some _=some _
   simp[Addr.add]
   constructor<;>split<;>simp_all
 . let x15:=p.x.val.cells.toList++(p.y.val.cells.toList++p.z.val.cells.toList)
   have l15:x15.length=15:=rfl
   have g0:l[t*17]?=some (Value.int .i64 y.i):=hg 0 _ rfl
   have g1:l[t*17+1]?=some (Value.int .i64 y.j):=hg 1 _ rfl
   have hset:=s01.set0 (hC.imp (a0b.le hle)) (i:=t) (y:=(q07.mk y.i y.j p).val.cells.toList) (z:=⟨z.i,z.j,q⟩) ht rfl ⟨_,rfl,hy.i,hy.j,hp⟩
   have e1:setL l (0+t*17) (q07.mk y.i y.j p).val.cells.toList=setL l (t*17+2) x15:=by
    rw[Nat.zero_add]; exact i0l g0 g1 x15
   rw[e1]at hset
   have ef:setL o (t*17+2) x15=setL l (t*17+2) x15++o':=by rw[eo]; exact H0g (by omega)
   have lS:(setL o (t*17+2) x15).length=o.length:=by
    rw[a0a _ _ _ (by omega)]; simp only[List.length_append,List.length_take,List.length_drop]; omega
   have lT:(setL l (t*17+2) x15).length=l.length:=by
    rw[a0a _ _ _ (by omega)]; simp only[List.length_append,List.length_take,List.length_drop]; omega
   have hb':m b=some o.toArray:=hb hne
   refine⟨λi cs hi => ?_,b,setL o (t*17+2) x15,setL l (t*17+2) x15,e,⟨hL.le,by rw[lS]; exact hL.len,?_⟩,by rw[List.length_set]; exact hn,λ_ => ?_,hset⟩
   . unfold q00 at hi
     split at hi
     . rename_i eb; subst eb; exact ha _ _ hb'
     . exact ha _ _ hi
   . rw[ef,List.take_append_of_le_length (by rw[lT,hC.length,hn]; exact Nat.le_refl _),List.take_of_length_le (by rw[lT,hC.length,hn]; exact Nat.le_refl _)]
   . unfold q00; rw[if_pos rfl]
def plM(f:F3)(m:Mk):Mk:=⟨m.i,m.j,m07 f (intQ m.i) (intQ m.j)⟩
def plL(f:F3)(ms:List Mk)(t:Nat):List Mk:=(List.range ms.length).map λr=>if r<t then plM f (ms.getD r mkD)else ms.getD r mkD
theorem F08(f:F3)(ms:List Mk)(t:Nat):(plL f ms t).length=ms.length:=by unfold plL; simp
theorem u0f{f:F3}{ms:List Mk}{t r:Nat}(h:r<ms.length):(plL f ms t)[r]?=some (if r<t then plM f (ms.getD r mkD)else ms.getD r mkD):=by
 unfold plL; rw[List.getElem?_map,List.getElem?_range h]; rfl
theorem n0m{f:F3}{ms:List Mk}{t r:Nat}(h:r<ms.length):(plL f ms t).getD r mkD=if r<t then plM f (ms.getD r mkD)else ms.getD r mkD:=by
 rw[List.getD_eq_getElem?_getD,u0f h]; rfl
theorem G0q(f:F3)(ms:List Mk):plL f ms 0=ms:=by
 refine List.ext_getElem? λr => ?_
 rcases Nat.lt_or_ge r ms.length with g|g
 . rw[u0f g,if_neg (by omega),B09 g]
 . rw[List.getElem?_eq_none (by rw[F08]; exact g),List.getElem?_eq_none g]
theorem O0r{f:F3}{ms:List Mk}{t:Nat}(h:t<ms.length):(plL f ms t).set t (plM f (ms.getD t mkD))=plL f ms (t+1):=by
 refine List.ext_getElem? λr => ?_
 rcases Nat.lt_or_ge r ms.length with g|g
 . rw[List.getElem?_set,F08,u0f g,u0f g]
   by_cases e:t=r
   . subst e; rw[if_pos rfl,if_pos h,if_pos (by omega)]
   . rw[if_neg e]
     by_cases c:r<t
     . rw[if_pos c,if_pos (by omega)]
     . rw[if_neg c,if_neg (by omega)]
 . rw[List.getElem?_eq_none (by rw[List.length_set,F08]; exact g),List.getElem?_eq_none (by rw[F08]; exact g)]
theorem o0m(f:F3)(ms:List Mk)(t r:Nat):((plL f ms t).getD r mkD).i=(ms.getD r mkD).i/\((plL f ms t).getD r mkD).j=(ms.getD r mkD).j:=by
 rcases Nat.lt_or_ge r ms.length with g|g
 . rw[n0m g]; split<;>exact⟨rfl,rfl⟩
 . have e1:(plL f ms t).getD r mkD=mkD:=by rw[List.getD_eq_getElem?_getD,List.getElem?_eq_none (by rw[F08]; exact g)]; rfl
   have e2:ms.getD r mkD=mkD:=by rw[List.getD_eq_getElem?_getD,List.getElem?_eq_none g]; rfl
   rw[e1,e2]; exact⟨rfl,rfl⟩
theorem Z0s(f:F3)(ms:List Mk)(t:Nat):fitA (plL f ms t)=fitA ms:=by
 funext r k
 unfold fitA
 rw[(o0m f ms t r).1,(o0m f ms t r).2]
theorem j0l(f:F3)(ms:List Mk)(t:Nat):q06 (plL f ms t)=q06 ms:=by unfold q06; rw[Z0s,F08]
theorem H0p{f:F3}{ms:List Mk}{t:Nat}(P:Mk->Prop)(h:∀m∈ms,P m)(hp:∀m∈ms,P (plM f m)):∀m∈plL f ms t,P m:=λm hm=>by
 unfold plL at hm
 obtain⟨r,hr,rfl⟩:=List.mem_map.1 hm
 have hr:r<ms.length:=by simpa using hr
 have hmem:ms.getD r mkD∈ms:=List.mem_of_getElem? (B09 hr)
 split
 . exact hp _ hmem
 . exact h _ hmem
theorem Q0n{f:F3}(h:f.real=true)(i j:Int):(m07 f (intQ i) (intQ j)).real=true:=by
 have k:∀a,(w06 (m07 f (intQ i) (intQ j)) a).im=0:=λa=>by
  rw[Z0c]
  have i0:=U0a h a 0; have i1:=U0a h a 1; have i2:=U0a h a 2
  simp only[m01,i01,intQ,i0,i1,i2]; grind
 unfold P3.real
 simp only[Bool.and_eq_true,decide_eq_true_eq]
 exact⟨k 0,k 1,k 2⟩
theorem H0q{f:F3}{ms:List Mk}(h:q06 ms≠Cq.zero):fitF (plL f ms ms.length)=f:=by
 refine B0p (by rw[j0l]; exact h) λr hr => ?_
 rw[F08]at hr
 rw[(o0m f ms _ r).1,(o0m f ms _ r).2,n0m hr,if_pos hr]
 rfl
theorem I0p(p:P3):j0c p p=P3.zero:=by
 have e:∀z:Cq,z+i0c*z=Cq.zero:=λz=>by
  have:((-1:Int):Rat) = -1:=rfl
  refine Cq.ext' ?_ ?_<;>simp only[i0c,e01,m01,f01,i01,Cq.zero]<;>grind
 unfold j0c q0a P3.zero
 rw[e,e,e]
theorem k0l(f:F3)(m:Mk):resD f (plM f m)=Cq.zero:=by
 unfold resD plM
 rw[I0p]
 refine Cq.ext' ?_ ?_<;>simp only[dotP,P3.zero,e01,m01,f01,i01,Cq.zero]<;>grind
theorem w0f{f:F3}:∀(l:List Mk),(∀m∈l,resD f m=Cq.zero)->resF f Cq.zero l=Cq.zero
 | [],_=>rfl
 | m::l,h=>by
   unfold resF
   rw[h m (by simp)]
   have:∀c:Prop,[Decidable c]->(if c then Cq.zero else Cq.zero)=Cq.zero:=λc _=>by split<;>rfl
   rw[this]
   exact w0f l λm hm=>h m (by simp[hm])
theorem W0j{ms:List Mk}(h:fitE ms=0):3<=ms.length/\ms.length<=32/\(∀m∈ms,m.p.real=true)/\q06 ms≠Cq.zero:=by
 unfold fitE at h
 split at h
 . simp at h
 . rename_i hn
   split at h
   . rename_i ha
     split at h
     . simp at h
     . rename_i hd
       exact⟨by omega,by omega,List.all_eq_true.1 ha,hd⟩
   . simp at h
theorem l0l{f:F3}{ms:List Mk}(hr:0<ms.length->f.real=true):fitE (plL f ms ms.length)=0\/fitE (plL f ms ms.length)=fitE ms\/fitE ms=1:=by
 unfold fitE
 rw[F08,j0l]
 by_cases hn:ms.length<3\/32<ms.length
 . rw[if_pos hn,if_pos hn]; exact .inr (.inl rfl)
 . rw[if_neg hn,if_neg hn]
   have ha:(plL f ms ms.length).all (λm=>m.p.real)=true:=List.all_eq_true.2 λm hm=>by
    unfold plL at hm
    obtain⟨r,hr',rfl⟩:=List.mem_map.1 hm
    rw[if_pos (by simpa using hr')]
    exact Q0n (hr (by omega)) _ _
   rw[if_pos ha]
   by_cases hd:q06 ms=Cq.zero
   . rw[if_pos hd]
     by_cases hb:ms.all (λm=>m.p.real)=true
     . rw[if_pos hb]; exact .inr (.inl rfl)
     . rw[if_neg hb]; exact .inr (.inr rfl)
   . rw[if_neg hd]; exact .inl rfl
theorem J0p{f:F3}{S T:Nat}(h:f.szle S)(hST:S<=T):f.szle T:=⟨h.o.mono hST,h.u.mono hST,h.v.mono hST⟩
set_option maxHeartbeats 4000000 in
theorem Q0d{V:View}{s:Sl}{ks:List L08}{f0 g0:L05}(hf:lfI f0)(hg:lfI g0)(h:I00 11 lmC V s ks)(hi:∀k∈ks,lmI k) :
 a00 Tryz.prog L07 #[f0.val,g0.val,s.v] V λv _=>v = .bool true:=by
 have hl:s.len=ks.length:=h.len
 have zf:=Z0q hf
 have zg:=Z0q hg
 have ok:=W0s hi
 have aw:∀ {m V':View},y01 Tryz.prog N06 #[] m V' λv m1 V1=>∃r1:Bool,v = .bool r1/\((0:Nat)≠1)/\∀V2:View,View.le V1 V2->(∀(b:Nat) (cs:Array Value),m1 b=some cs->V2 b=some cs)->Value.bool r1 = .bool true :=
  z06 Y0h λv V3 l3 _ hv=>⟨true,hv,by decide,λ_ _ _=>rfl⟩
 obtain⟨ms,ems⟩:∃ms,ms=ks.map lmM:=⟨_,rfl⟩
 obtain⟨f,ef⟩:∃f,f=lfF f0:=⟨_,rfl⟩
 refine y07 f0 g0 s V _ (λc x V'=>c.t10=fitE ms/\RegM x.o0 V' c.t7 ms/\w04 V' c.o11 f)
  (λc x V'=>∃t:Nat,x.t76=t/\t<=ms.length/\c.t10=fitE ms/\RegM x.o0 V' c.t7 (plL f ms t)/\w04 V' c.o11 f/\(0<t->f.real=true)) (λ_ x _=>ms.length-x.t76.toNat) ?_
 refine⟨λ_=>aw,λc => ?_⟩
 have hn:ks.length<=20:=by rw[hl]at c; simp at c; omega
 refine o0l (U0j h hi (by omega)) λb n cap o rest V3 l3 ap mb vb ⟨q3,l,er,hL,en,hC⟩ => ?_
 subst er
 have hm0:RegM (if o=[]then(λ_=>none)else q00 (λ_=>none) b o.toArray) V3 ⟨lstA b cap,n,cap⟩ ms:=by
  refine⟨λi cs hh => ?_,b,o,l,rfl,hL,by rw[ems,List.length_map]; exact en,λho => ?_,by rw[ems]; exact hC⟩
  . split at hh
    . simp at hh
    . rename_i ho
      unfold q00 at hh
      split at hh
      . rename_i eb; subst eb; exact vb.resolve_right ho
      . simp at hh
  . rw[if_neg ho]; unfold q00; rw[if_pos rfl]
 refine⟨⟨lstA b cap,n,cap⟩,q3,rfl,?_⟩
 generalize (if o=[]then(λ_=>none)else q00 (λ_=>none) b o.toArray:View)=m2 at hm0 ⊢
 generalize (⟨lstA b cap,n,cap⟩:Sl)=r2 at hm0 ⊢
 rw[<-ems]at ok
 have hnm:ms.length<=20:=by rw[ems,List.length_map]; exact hn
 rw[<-ef]at zf
 clear hC hL en mb vb ap
 have ok1:∀m∈ms,m.in64:=λm hm=>(ok m hm).2
 have ok2:∀m∈ms,m.p.szle 64:=λm hm=>(ok m hm).1
 have ok3:∀m∈ms,m.p.szle 1100:=λm hm=>(ok m hm).1.mono (by omega)
 have pz:∀ {t:Nat},∀m∈plL f ms t,m.p.szle 400:=λ{t}=>H0p (λm=>m.p.szle 400) (λm hm=>(ok2 m hm).mono (by omega)) λm hm=>(s0a zf (H03 (ok1 m hm).1) (H03 (ok1 m hm).2)).mono (by omega)
 have pi:∀ {t:Nat},∀m∈plL f ms t,m.in64:=λ{t}=>H0p (λm=>m.in64) ok1 λm hm=>ok1 m hm
 refine n04 (U0h hm0.at ok1 ok3) λv W4 V4 l4 e4 a4 ⟨r4,hv,h4,z4⟩=>⟨r4,_,hv,?_⟩
 subst e4
 refine z06 (m0b hf) λv V5 l5 a5 ⟨r6,r7,hv,h6,_⟩=>⟨r6,r7,hv,?_⟩
 refine z06 (m0b hg) λv V6 l6 a6 ⟨r8,r9,hv,h8,_⟩=>⟨r8,r9,hv,?_⟩
 rw[<-ef]at h6
 have M6:=hm0.le (View.le_trans l4 (View.le_trans l5 l6)) a6
 have k6:=h6.le l6
 refine⟨⟨λc => ?_,λc=>⟨rfl,M6,k6⟩⟩,?_⟩
 . have e0:fitE ms=0:=by simpa using c
   obtain⟨n3,_,hall,hdet⟩:=W0j e0
   have hr:=k0m hdet hall
   rw[if_pos e0]at h4
   have zF:=F0q ok1 ok2 hnm
   refine n04 (T0j (h4.le (j05 (View.le_trans l5 l6))) M6.at zF (by omega) ok2 ok1 hnm) λv W8 V8 l8 e8 a8 ⟨r10,b10,hv,eb,h10⟩=>⟨r10,b10,hv,λc => ?_,λ_ => ?_⟩
   . rw[eb,hr]at c; simp at c
   subst e8
   have zG:=J0p zg (show 64<=2^27 by decide)
   refine n04 (T0j (w04.le (View.le_trans l8 (d0d a8)) h8) (M6.le l8 a8).at zG (by omega) ok2 ok1 hnm) λv W10 V10 l10 e10 a10 ⟨r12,b12,hv,eb2,h12⟩=>⟨r12,b12,hv,λc => ?_,λc=>⟨rfl,M6.le (View.le_trans l8 l10) a10,k6.le (View.le_trans l8 l10)⟩⟩
   subst e10
   have hgr:(lfF g0).real=true:=by rw[<-eb2]; exact c
   have c1:=g0e zF ok2 ok1 ms.length
   have c2:=g0e zG ok2 ok1 ms.length
   have c3:ms.length*2500000000<=20*2500000000:=Nat.mul_le_mul_right _ hnm
   refine n04 (Z06 (h12 c) ((h10 (eb.trans hr)).le (j05 l10)) (by omega) (by omega)) λv W11 V11 l11 e11 a11 hv=>⟨_,hv,λc => ?_,λ_=>⟨rfl,M6.le (View.le_trans l8 (View.le_trans l10 l11)) a11,k6.le (View.le_trans l8 (View.le_trans l10 l11))⟩⟩
   exfalso
   have c:=of_decide_eq_true c
   rw[N0h (G0p hgr hall _) (G0p hr hall _)]at c
   have le:=P0n hdet hall hgr
   unfold cmpR at c
   rw[if_neg (Rat.not_lt.2 le)]at c
   split at c<;>simp at c
 rintro⟨o0⟩ V7 l7 ⟨_,m7,k7⟩
 dsimp only at m7 k7 ⊢
 have er2:r2.len=ms.length:=m7.len
 refine⟨⟨0,rfl,by omega,rfl,by rw[G0q]; exact m7,k7,λx=>absurd x (by omega)⟩,?_⟩
 rw[er2]
 rintro⟨t76,o0'⟩ V13 l13 ⟨t,et,ht,_,m13,k13,hre⟩
 dsimp only at et m13 k13 ⊢
 subst et
 refine⟨λhlt => ?_,λhge => ?_⟩
 . have hk:t<ms.length:=by have:=of_decide_eq_true hlt; omega
   have eg:=u0f (f:=f) (t:=t) hk
   rw[if_neg (Nat.lt_irrefl t)]at eg
   obtain⟨g1,y,hy,g2,g3⟩:=m13.get eg
   rw[er2]at g1
   have hmem:ms.getD t mkD∈ms:=List.mem_of_getElem? (B09 hk)
   have im:=ok1 _ hmem
   refine⟨g1,y,g2,g3,?_⟩
   rw[hy.i,hy.j]
   refine z06 (D04 im.1.1 im.1.2) λv V14 l14 a14 ⟨r15,hv,h15⟩=>⟨r15,hv,?_⟩
   refine z06 (D04 im.2.1 im.2.2) λv V15 l15 a15 ⟨r16,hv,h16⟩=>⟨r16,hv,?_⟩
   have h15:N00 V14 r15 (intQ (ms.getD t mkD).i):=h15
   have h16:N00 V15 r16 (intQ (ms.getD t mkD).j):=h16
   have okE:C0b f (intQ (ms.getD t mkD).i) (intQ (ms.getD t mkD).j)=f.real:=by unfold C0b; show(f.real&&true)=_; rw[Bool.and_true]
   refine z06 (O0g (k13.le (View.le_trans l14 l15)) (h15.le l15) h16 zf (H03 im.1) (H03 im.2) (by decide)) λv V16 l16 a16 ⟨r17,hv,h17⟩=>⟨r17,_,hv,λc => ?_,λc => ?_⟩
   . have c:f.real=false:=by
       cases e:f.real with
       | false=>rfl
       | true=>rw[if_pos (okE.trans e)]at c; simp at c
     rw[if_neg (by rw[okE,c]; simp)]
     exact⟨λ_=>aw,λc=>absurd c (by simp)⟩
   have hr:f.real=true:=by
    cases e:f.real with
    | true=>rfl
    | false=>rw[if_neg (by rw[okE,e]; simp)]at c; simp at c
   rw[if_pos (okE.trans hr)]at h17
   have L16:=View.le_trans l14 (View.le_trans l15 l16)
   obtain⟨b,c0,o,p1,p2,p3,p4⟩:=(m13.le L16 a16).put eg
   have p5:=p4 V16 r17 _ (View.le_refl V16) a16 h17
   rw[show(⟨(ms.getD t mkD).i,(ms.getD t mkD).j,m07 f (intQ (ms.getD t mkD).i) (intQ (ms.getD t mkD).j)⟩:Mk)=plM f (ms.getD t mkD)from rfl,O0r hk]at p5
   refine⟨g1,g3,b,c0,o,p1,p2,p3,?_⟩
   rw[i64w (by omega) (by omega)]
   exact⟨⟨t+1,by omega,by omega,rfl,p5,k13.le L16,λ_=>hr⟩,by omega⟩
 . have e:t=ms.length:=by have:=of_decide_eq_false hge; omega
   subst e
   refine n04 (U0h m13.at pi λm hm=>(pz m hm).mono (by omega)) λv W20 V20 l20 e20 a20 ⟨r20,hv,h20,z20⟩=>⟨r20,_,hv,λc => ?_,λc => ?_⟩
   . refine⟨λ_=>aw,λc2=>⟨λ_=>aw,λc3 => ?_⟩⟩
     exfalso
     have c:¬fitE (plL f ms ms.length)=0:=by simpa using c
     have c2:¬fitE (plL f ms ms.length)=fitE ms:=by simpa using c2
     have c3:¬fitE ms=1:=by simpa using c3
     rcases l0l hre with x|x|x<;>contradiction
   subst e20
   have c:fitE (plL f ms ms.length)=0:=by simpa using c
   obtain⟨n3,n32,hall,hdet⟩:=W0j c
   rw[F08]at n3 n32
   have hr:=hre (by omega)
   rw[if_pos c,H0q (by rw[j0l]at hdet; exact hdet)]at h20
   have hE:resE f (plL f ms ms.length)=0:=by
    unfold resE
    rw[F08,if_neg (by omega),if_pos hr,if_pos (List.all_eq_true.2 hall)]
   have hV:resV f (plL f ms ms.length)=Cq.zero:=by
    unfold resV
    rw[if_pos hE]
    refine w0f _ λm hm => ?_
    unfold plL at hm
    obtain⟨r,hr',rfl⟩:=List.mem_map.1 hm
    rw[if_pos (by simpa using hr')]
    exact k0l f _
   refine n04 (Y0f h20 (m13.le l20 a20).at zf pz pi) λv W26 V26 l26 e26 a26 ⟨r24,hv,h24⟩=>⟨r24,_,hv,λ_ => ?_,λc => ?_⟩
   . subst e26
     rw[hV]at h24
     refine n04 (E08 h24 (Nat.le_trans x06 (by decide))) λv W27 V27 l27 e27 a27 hv=>⟨_,hv,λ_ => ?_,λc => ?_⟩
     . subst e27
       have F27:w04 (t05 o0' V27) r20 f:=h20.le (j05 (View.le_trans l26 l27))
       have G27:w04 (t05 o0' V27) r6 f:=(k13.le (View.le_trans l20 (View.le_trans l26 l27))).le (d0d a27)
       refine n04 (j07 F27.o G27.o zf.o zf.o (by decide) rfl) λv W28 V28 l28 e28 a28 hv=>⟨_,hv,λ_ => ?_,λc=>absurd c (by simp)⟩
       refine n04 (j07 (F27.u.le (j05 l28)) (G27.u.le (j05 l28)) zf.u zf.u (by decide) rfl) λv W29 V29 l29 e29 a29 hv=>⟨_,hv,λ_ => ?_,λc=>absurd c (by simp)⟩
       refine n04 (j07 (F27.v.le (j05 (View.le_trans l28 l29))) (G27.v.le (j05 (View.le_trans l28 l29))) zf.v zf.v (by decide) rfl) λv W30 V30 l30 e30 a30 hv=>⟨_,hv,λ_=>aw,λc=>absurd c (by simp)⟩
     . simp at c
   . rw[hE]at c; simp at c
