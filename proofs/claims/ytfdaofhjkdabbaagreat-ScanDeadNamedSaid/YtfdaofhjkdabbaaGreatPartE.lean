/- Part. -/
import Derived.Test.YtfdaofhjkdabbaaGreatPartD
import Derived.Laws.StructEq
namespace Go.Proofs.YtfdaofhjkdabbaaGreat
open Go Go.Vc Go.Proofs
open Go.Proofs.Tryz (prog)
theorem W0b{V:View}{s t:Sk}(h:s.ok)(k:t.ok):a00 prog u0o #[s.v.val,t.v.val] V λv _=>v=(Sk.v (s.set.add t.set).span).val:=by
 refine a0m s.v t.v V _ ((N0d h).mono λv V1 l1 ⟨a,hv,ha⟩=>⟨a,hv,(N0d k).mono λv V2 l2 ⟨b,hv,hb⟩=>⟨b,hv,?_⟩⟩)
 refine(p0d (ha.le l2) hb (A07 h) (A07 k) (by omega)).mono λv V3 l3 ⟨c,hv,hc⟩=>⟨c,hv,?_⟩
 exact(K06 hc (F0n (A07 h) (A07 k)) (by omega)).mono λv V4 _ hv=>⟨_,hv,rfl⟩
theorem J0k{V:View}{b c:Bk}(h:b.ok)(k:c.ok):a00 prog m0q #[b.v.val,c.v.val] V λv _=>v=(b.add c).v.val :=
 c0p b.v c.v V _ ((W0b h.re k.re).mono λ_ _ _ hv=>⟨_,hv,(W0b h.im k.im).mono λ_ _ _ hv=>⟨_,hv,rfl⟩⟩)
theorem z0a{V:View}{a:BdV}{e:Eb}(ha:BdAt V a e)(hz:e.num.sz<=2^40):a00 prog G0l #[a.val] V λv V'=>∃b:BdV,v=b.val/\BdAt V' b e.abs:=by
 refine A0j a V _ ((K04 ha hz).mono λv V1 l1 hv=>⟨_,hv,λh => ?_,λh => ?_⟩)
 . have h:e.sign<0:=by simpa using h
   exact(L0f (ha.le l1)).mono λv V2 _ ⟨b,hv,hb⟩=>⟨b,hv,b,rfl,by unfold Eb.abs; rw[if_pos h]; exact hb⟩
 . have h:¬e.sign<0:=by simpa using h
   exact⟨a,rfl,by unfold Eb.abs; rw[if_neg h]; exact ha.le l1⟩
theorem G0n(e:Eb):e.abs.num.sz=e.num.sz:=by
 unfold Eb.abs; split
 . exact E0p e
 . rfl
theorem f0f{V:View}:a00 prog H0l #[.int .i64 0] V λv V'=>∃b:BdV,v=b.val/\BdAt V' b (Eb.fin 0):=by
 refine B0j 0 V _ ((S02 (by omega) (by omega)).mono λv V1 _ ⟨r,hv,hr⟩=>⟨r,hv,_,rfl,rfl,?_,.inl rfl⟩)
 rw[Rat.intCast_zero]at hr; exact hr
theorem K0k{e:Es}{S:Nat}(he:Es.szle e S)(hS:1<=S):Es.szle e.size S:=by
 have a:=G0n e.lo; have b:=G0n e.hi; have c:=he.1; have d:=he.2
 have p:∀way,(Eb.pick way [e.lo.abs,e.hi.abs]).num.sz<=S:=λway=>B0m (by simp) (by intro x hx; simp at hx; rcases hx with rfl|rfl<;>omega)
 unfold Es.size; split
 . exact⟨Nat.le_trans n0s hS,p 1⟩
 . exact⟨p (-1),p 1⟩
theorem x0i{V:View}{s:SetV}{e:Es}(h:EsAt V s e){S:Nat}(he:Es.szle e S)(hS:S<=2^30):a00 prog E0o #[s.val] V λv V'=>∃r:SetV,v=r.val/\EsAt V' r e.size:=by
 have a:=G0n e.lo; have b:=G0n e.hi; have c:=he.1; have d:=he.2
 have p:∀x∈[e.lo.abs,e.hi.abs],x.num.sz<=2^40:=by intro x hx; simp at hx; rcases hx with rfl|rfl<;>omega
 refine Y0l s V _ ((z0a h.lo (by omega)).mono λv V1 l1 ⟨r1,hv,h1⟩=>⟨r1,hv,(z0a (h.hi.le l1) (by omega)).mono λv V2 l2 ⟨r2,hv,h2⟩=>⟨r2,hv,?_⟩⟩)
 refine(w0i (h.le (View.le_trans l1 l2)) he hS).mono λv V3 l3 hv=>⟨_,hv,λhc => ?_,λhc => ?_⟩
 . refine f0f.mono λv V4 l4 ⟨r4,hv,h4⟩=>⟨r4,hv,λb1 V5 l5 _ hb1 => ?_⟩
   have L:=View.le_trans l3 (View.le_trans l4 l5)
   refine(J06 (U0a (h1.le (View.le_trans l2 L)) (h2.le L) hb1) (by simp) (by simp) p).mono λv V6 l6 ⟨r5,hv,h5⟩=>⟨r5,hv,_,rfl,?_⟩
   unfold Es.size; rw[if_pos hc]; exact⟨h4.le (View.le_trans l5 l6),h5⟩
 . intro b2 V7 l7 _ hb2
   have L:=View.le_trans l3 l7
   refine(I0c (U0a (h1.le (View.le_trans l2 L)) (h2.le L) hb2) (by simp) (by simp) p).mono λv V8 l8 ⟨r6,hv,h6⟩=>⟨r6,hv,λb3 V9 l9 _ hb3 => ?_⟩
   have L2:=View.le_trans L (View.le_trans l8 l9)
   refine(J06 (U0a (h1.le (View.le_trans l2 L2)) (h2.le L2) hb3) (by simp) (by simp) p).mono λv V10 l10 ⟨r7,hv,h7⟩=>⟨r7,hv,_,rfl,?_⟩
   unfold Es.size; rw[if_neg (by rw[hc]; decide)]; exact⟨h6.le (View.le_trans l9 l10),h7⟩
theorem g0f{e:Es}{S:Nat}(he:Es.szle e S)(hS:1<=S):Es.szle e.square (2*S+1):=by
 have z:=K0k he hS
 have a:=U0g e.size.lo e.size.lo; have b:=U0g e.size.hi e.size.hi
 have c:=z.1; have d:=z.2
 exact⟨by show(e.size.lo.mul e.size.lo).num.sz<=_; omega,by show(e.size.hi.mul e.size.hi).num.sz<=_; omega⟩
theorem N09{V:View}{s:SetV}{e:Es}(h:EsAt V s e){S:Nat}(he:Es.szle e S)(h1S:1<=S)(hS:S<=2^30):a00 prog g0j #[s.val] V λv V'=>∃r:SetV,v=r.val/\EsAt V' r e.square:=by
 have z:=K0k he h1S
 have c:=z.1; have d:=z.2
 refine I0h s V _ ((x0i h he hS).mono λv V1 l1 ⟨r1,hv,h1⟩=>⟨r1,hv,?_⟩)
 refine(y0a h1.lo h1.lo (by omega) (by omega)).mono λv V2 l2 ⟨r2,hv,h2⟩=>⟨r2,hv,?_⟩
 exact(y0a (h1.hi.le l2) (h1.hi.le l2) (by omega) (by omega)).mono λv V3 l3 ⟨r3,hv,h3⟩=>⟨r3,hv,_,rfl,h2.le l3,h3⟩
def Bk.norm(b:Bk):Sk:=(b.re.set.square.add b.im.set.square).span
theorem y0i{V:View}{b:Bk}(h:b.ok):a00 prog w0o #[b.v.val] V λv _=>v=(Bk.norm b).v.val:=by
 have z1:=g0f (A07 h.re) (by omega); have z2:=g0f (A07 h.im) (by omega)
 refine Z0l b.v V _ ((N0d h.re).mono λv V1 l1 ⟨r1,hv,h1⟩=>⟨r1,hv,?_⟩)
 refine(N09 h1 (A07 h.re) (by omega) (by omega)).mono λv V2 l2 ⟨r2,hv,h2⟩=>⟨r2,hv,?_⟩
 refine(N0d h.im).mono λv V3 l3 ⟨r3,hv,h3⟩=>⟨r3,hv,?_⟩
 refine(N09 h3 (A07 h.im) (by omega) (by omega)).mono λv V4 l4 ⟨r4,hv,h4⟩=>⟨r4,hv,?_⟩
 refine(p0d (h2.le (View.le_trans l3 l4)) h4 z1 z2 (by omega)).mono λv V5 l5 ⟨r5,hv,h5⟩=>⟨r5,hv,?_⟩
 exact(K06 h5 (F0n z1 z2) (by omega)).mono λv V6 _ hv=>⟨_,hv,rfl⟩
def ofS(q:Rat):Sk:=⟨S08 q,p0a q⟩
def ofB(z:Cq):Bk:=⟨ofS z.re,ofS z.im⟩
theorem Q0u(q:Rat):(ofS q).ok:=⟨g0k q,i0k q⟩
theorem S0u(z:Cq):(ofB z).ok:=⟨Q0u _,Q0u _⟩
theorem i0f{V:View}{x y:NumV}{q:Rat}(hx:N00 V x ⟨q,0⟩)(hy:N00 V y ⟨q,0⟩)(hz:(⟨q,0⟩:Cq).sz<=2^28):a00 prog X0c #[x.val,y.val] V λv _=>v = .tuple #[(ofS q).v.val,.int .i64 0]:=by
 refine w0b x y V _ ((Q01 hx).mono λv V1 l1 hv=>⟨_,hv,λh=>absurd h (by simp),λ_ => ?_⟩)
 refine(Q01 (hy.le l1)).mono λv V2 l2 hv=>⟨_,hv,λh=>absurd h (by simp),λ_ b1 V3 l3 _ hb1 => ?_⟩
 have L3:=View.le_trans l1 (View.le_trans l2 l3)
 have bx:BdAt V3 (BdV.mk 0 x) ⟨0,q⟩:=⟨rfl,hx.le L3,.inl rfl⟩
 have byy:BdAt V3 (BdV.mk 0 y) ⟨0,q⟩:=⟨rfl,hy.le L3,.inl rfl⟩
 have hs:∀e∈[(⟨0,q⟩:Eb),⟨0,q⟩],e.num.sz<=2^40:=by
  intro e he; simp at he; subst he; exact Nat.le_trans hz (by omega)
 have pk:∀way,Eb.pick way [(⟨0,q⟩:Eb),⟨0,q⟩]=⟨0,q⟩:=λway=>by
  show(if Eb.cmp ⟨0,q⟩ ⟨0,q⟩=way then(⟨0,q⟩:Eb)else⟨0,q⟩)=_
  split<;>rfl
 refine(I0c (U0a bx byy hb1) (by simp) (by simp) hs).mono λv V4 l4 ⟨r3,hv,h3⟩=>⟨r3,hv,λb2 V5 l5 _ hb2 => ?_⟩
 have L5:=View.le_trans l4 l5
 refine(J06 (U0a (bx.le L5) (byy.le L5) hb2) (by simp) (by simp) hs).mono λv V6 l6 ⟨r4,hv,h4⟩=>⟨r4,hv,?_⟩
 rw[pk]at h3 h4
 have hset:EsAt V6 (SetV.mk r3 r4) ⟨⟨0,q⟩,⟨0,q⟩⟩:=⟨h3.le (View.le_trans l5 l6),h4⟩
 refine(K06 hset (S:=2^28) ⟨hz,hz⟩ (by omega)).mono λv V7 _ hv=>⟨_,hv,?_⟩
 rfl
theorem p0s{V:View}{x:NumV}{z:Cq}(b:BoxV)(hx:N00 V x z)(hz:z.sz<=2^27):a00 prog b0t #[b.val,x.val] V λv _=>v=(ofB z).v.val:=by
 have s1:=f0x z; have s2:=g0x z
 refine G0q b x V _ ((U0e hx (by omega)).mono λv V1 l1 ⟨r1,hv,h1⟩=>⟨r1,hv,?_⟩)
 refine(U0e (hx.le l1) (by omega)).mono λv V2 l2 ⟨r2,hv,h2⟩=>⟨r2,hv,?_⟩
 refine(i0f (h1.le l2) h2 (by omega)).mono λv V3 l3 hv=>⟨_,_,hv,?_⟩
 have L3:=View.le_trans l1 (View.le_trans l2 l3)
 refine(W0e (hx.le L3) (by omega)).mono λv V4 l4 ⟨r5,hv,h5⟩=>⟨r5,hv,?_⟩
 refine(W0e (hx.le (View.le_trans L3 l4)) (by omega)).mono λv V5 l5 ⟨r6,hv,h6⟩=>⟨r6,hv,?_⟩
 exact(i0f (h5.le l5) h6 (by omega)).mono λv V6 _ hv=>⟨_,_,hv,rfl⟩
theorem c0w(s:Sk)(q:Rat):s.has q=true↔¬Eb.LT ⟨0,q⟩ (endE s.lo)/\¬Eb.LT (endE s.hi) ⟨0,q⟩:=by
 unfold Sk.has
 rw[Bool.and_eq_true,decide_eq_true_iff,decide_eq_true_iff,<-Eb.cmp_1,<-Eb.cmp_1]
 have r1:=Eb.cmp_range (endE s.lo) ⟨0,q⟩
 have r2:=Eb.cmp_range ⟨0,q⟩ (endE s.hi)
 constructor
 . rintro⟨h1,h2⟩; exact⟨by omega,by omega⟩
 . rintro⟨h1,h2⟩; exact⟨by omega,by omega⟩
theorem q0s(q:Rat):(ofS q).has q=true:=(c0w _ _).2 ⟨P0a q,k0m q⟩
theorem d0w(z:Cq):(ofB z).has z=true:=by
 show((ofS z.re).has z.re&&(ofS z.im).has z.im)=true
 rw[q0s,q0s]; rfl
theorem O0d{z:Cq}(h:z.im=0):z=(⟨0,z.re⟩:Eb).num:=Cq.ext' rfl h
def arE(z w:Cq):Int:=if z.im=0/\w.im=0 then 0 else 1
def arL(z w:Cq):List Eb:=[⟨0,z.re⟩,⟨0,w.re⟩]
def arS(z w:Cq):Sk:=if z.im=0/\w.im=0 then Es.span ⟨Eb.pick (-1) (arL z w),Eb.pick 1 (arL z w)⟩else Sk.nil
theorem T0u(z w:Cq):(arS z w).ok:=by
 unfold arS; split
 . exact m08 _
 . exact Sk.nil_ok
theorem q0x{z w:Cq}{S:Nat}(hz:z.sz<=S)(hw:w.sz<=S)(h1:z.im=0)(h2:w.im=0):∀e∈arL z w,e.num.sz<=S:=by
 intro e he
 simp only[arL,List.mem_cons,List.not_mem_nil,or_false]at he
 rcases he with rfl|rfl
 . rw[<-O0d h1]; exact hz
 . rw[<-O0d h2]; exact hw
theorem L0k{V:View}{x y:NumV}{z w:Cq}(hx:N00 V x z)(hy:N00 V y w)(hz:z.sz<=2^27)(hw:w.sz<=2^27):a00 prog X0c #[x.val,y.val] V λv _=>v = .tuple #[(arS z w).v.val,.int .i64 (arE z w)]:=by
 refine w0b x y V _ ((Q01 hx).mono λv V1 l1 hv=>⟨_,hv,λh => ?_,λh => ?_⟩)
 . have h:¬z.im=0:=by simpa using h
   unfold arS arE; rw[if_neg (λg=>h g.1),if_neg (λg=>h g.1)]; rfl
 have h1:z.im=0:=by simpa using h
 refine(Q01 (hy.le l1)).mono λv V2 l2 hv=>⟨_,hv,λh => ?_,λh b1 V3 l3 _ hb1 => ?_⟩
 . have h:¬w.im=0:=by simpa using h
   unfold arS arE; rw[if_neg (λg=>h g.2),if_neg (λg=>h g.2)]; rfl
 have h2:w.im=0:=by simpa using h
 have L3:=View.le_trans l1 (View.le_trans l2 l3)
 have bx:BdAt V3 (BdV.mk 0 x) ⟨0,z.re⟩:=⟨rfl,by rw[<-O0d h1]; exact hx.le L3,.inl rfl⟩
 have byy:BdAt V3 (BdV.mk 0 y) ⟨0,w.re⟩:=⟨rfl,by rw[<-O0d h2]; exact hy.le L3,.inl rfl⟩
 have hs:=q0x hz hw h1 h2
 have hs40:∀e∈arL z w,e.num.sz<=2^40:=λe he=>Nat.le_trans (hs e he) (by omega)
 refine(I0c (es:=arL z w) (U0a bx byy hb1) (by simp[arL]) (by simp[arL]) hs40).mono λv V4 l4 ⟨r3,hv,h3⟩=>⟨r3,hv,λb2 V5 l5 _ hb2 => ?_⟩
 have L5:=View.le_trans l4 l5
 refine(J06 (es:=arL z w) (U0a (bx.le L5) (byy.le L5) hb2) (by simp[arL]) (by simp[arL]) hs40).mono λv V6 l6 ⟨r4,hv,h4⟩=>⟨r4,hv,?_⟩
 have hset:EsAt V6 (SetV.mk r3 r4) ⟨Eb.pick (-1) (arL z w),Eb.pick 1 (arL z w)⟩:=⟨h3.le (View.le_trans l5 l6),h4⟩
 refine(K06 hset (S:=2^27) ⟨B0m (by simp[arL]) hs,B0m (by simp[arL]) hs⟩ (by omega)).mono λv V7 _ hv=>⟨_,hv,?_⟩
 unfold arS arE; rw[if_pos ⟨h1,h2⟩,if_pos ⟨h1,h2⟩]
theorem s0s{V:View}{a b c:NumV}{x y z:Cq}{S:Nat}(ha:N00 V a x)(hb:N00 V b y)(hc:N00 V c z)(sx:x.sz<=S)(sy:y.sz<=S)(sz:z.sz<=S)(hS:S<=2^30) :
 a00 prog y0l #[a.val,b.val,c.val] V λv V'=>∃r:NumV,v=r.val/\N00 V' r (j0k x y z):=by
 have s1:=j07 x y; have s2:=j07 z y
 refine L0j a b c V _ ((f06 ha hb (by omega) (by omega)).mono λv V1 l1 ⟨r1,hv,h1⟩=>⟨r1,hv,?_⟩)
 refine(f06 (hc.le l1) (hb.le l1) (by omega) (by omega)).mono λv V2 l2 ⟨r2,hv,h2⟩=>⟨r2,hv,?_⟩
 refine(J09 (h1.le l2) h2 (by omega) (by omega)).mono λv V3 l3 ⟨r3,e,hv,hz,hn⟩=>⟨r3,e,hv,r3,rfl,?_⟩
 by_cases g:z-y=Cq.zero
 . have e1:j0k x y z=Cq.zero:=by
     unfold j0k; rw[g]
     refine Cq.ext' ?_ ?_<;>simp only[Cq.div,Cq.norm,Cq.zero,Rat.mul_zero,Rat.add_zero,Rat.div_def,Rat.inv_zero]
   rw[e1]; exact(hz g).2
 . exact(hn g).2
theorem M0k{V:View}{a b c:NumV}{x y z:Cq}{S:Nat}(ha:N00 V a x)(hb:N00 V b y)(hc:N00 V c z)(sx:x.sz<=S)(sy:y.sz<=S)(sz:z.sz<=S)(hS:S<=2^34) :
 a00 prog A0f #[a.val,b.val,c.val] V λv V'=>∃r:NumV,v=r.val/\N00 V' r (i0i x y z):=by
 have s1:=j07 y x; have s2:=y03 z (y-x)
 refine x0e a b c V _ ((f06 hb ha (by omega) (by omega)).mono λv V1 l1 ⟨r1,hv,h1⟩=>⟨r1,hv,?_⟩)
 refine(p03 (hc.le l1) h1 (by omega) (by omega)).mono λv V2 l2 ⟨r2,hv,h2⟩=>⟨r2,hv,?_⟩
 exact(J04 (ha.le (View.le_trans l1 l2)) h2 (by omega) (by omega)).mono λv V3 l3 ⟨r3,hv,h3⟩=>⟨r3,hv,r3,rfl,h3⟩
theorem z0i{V:View}{s:Sl}{l:List Tk}(h:K07 V s l){p:Option Addr}(hp:V.load p=some s.v){t:Nat}{k:Tk}(hk:l[t]?=some k) :
 a00 prog Q08 #[.int .i64 (t:Int),.pointer p] V λv V'=>∃r:NumV,v = .tuple #[r.val,.bool (decide (k.place.im=0))]/\N00 V' r k.time:=by
 obtain⟨g,y,hy,_,hs,⟨h1,g1⟩,h2,g2⟩:=H0b h (t:=(t:Int)) (by omega) (k:=k) (by rw[Int.toNat_natCast]; exact hk)
 refine t0c (t:Int) p V _ ⟨s,hp,g,hs,y.time,h1,g1,s,hp,g,hs,y.place,h2,g2,?_⟩
 exact(Q01 hy.place).mono λv V1 l1 hv=>⟨_,hv,_,rfl,hy.time.le l1⟩
theorem M0f{V:View}{s:Sl}{l:List Tk}(h:K07 V s l){S:Nat}(hz:∀k∈l,k.szle S)(hS:S<=2^30){p:Option Addr}(hp:V.load p=some s.v) :
 a00 prog w0d #[.int .i64 (s.len:Int),(Fn1.mk p).val Q08] V λv _=>∃r:Int,v = .int .i64 r/\r=C0c l:=by
 have hl:s.len=l.length:=h.len
 refine z05 (s.len:Int) ⟨p⟩ V _ (λ_ _ _=>1<=l.length/\l.length<=4096)
  (λ_ x V'=>∃t:Nat,x.t16=t/\t<=l.length/\(∀k,C0d l t=some k->N00 V' x.o5 k.time/\k.time.im=0)/\ascF none l=ascF ((C0d l t).map λk=>k.time.re) (l.drop t)) (λ_ x _=>l.length-x.t16.toNat) ?_
 rw[hl]
 refine⟨⟨λh0=>⟨_,rfl,?_⟩,λh0=>⟨λh1=>⟨_,rfl,?_⟩,λh1 => ?_⟩⟩,?_⟩
 . unfold C0c; rw[if_pos (.inl (by simpa using h0))]
 . unfold C0c; rw[if_pos (.inr (by simp at h1; omega))]
 . have h0:l.length≠0:=by simpa using h0
   exact⟨by omega,by simp at h1; omega⟩
 rintro⟨u⟩ V1 l1 ⟨hn1,hn2⟩
 refine⟨⟨0,rfl,by omega,λk hk=>by simp[C0d]at hk,rfl⟩,?_⟩
 rw[B0r hn1 hn2]
 rintro⟨t16,o5⟩ V2 l2 ⟨t,et,ht,ho,hE⟩
 dsimp only at et ho ⊢
 subst et
 have L2:=View.le_trans l1 l2
 refine⟨λhlt => ?_,λhge=>⟨_,rfl,?_⟩⟩
 . have hk:t<l.length:=by simp at hlt; omega
   have ek:l[t]?=some l[t]:=List.getElem?_eq_getElem hk
   have hmem:l[t]∈l:=List.getElem_mem hk
   obtain⟨zt,zp⟩:=hz _ hmem
   rw[l0m ek]at hE
   generalize hkk:l[t]=k at *
   refine(z0i (h.le L2) (q03 L2 hp) ek).mono λv V3 l3 ⟨r1,hv,h1⟩=>⟨r1,_,hv,λc=>⟨_,rfl,?_⟩,λc => ?_⟩
   . have c:¬k.place.im=0:=by simpa using c
     rw[hE]; unfold ascF; rw[if_pos (by unfold Tk.real; simp[c])]
   have c:k.place.im=0:=by simpa using c
   refine(Q01 h1).mono λv V4 l4 hv=>⟨_,hv,λd=>⟨_,rfl,?_⟩,λd => ?_⟩
   . have d:¬k.time.im=0:=by simpa using d
     rw[hE]; unfold ascF; rw[if_pos (by unfold Tk.real; simp[d])]
   have d:k.time.im=0:=by simpa using d
   have hr:¬k.real=false:=by unfold Tk.real; simp[c,d]
   have step:∀V',View.le V4 V'->(∀q,C0d l t=some q->¬k.time.re<=q.time.re)->(∃t':Nat,IntKind.i64.wrap ((t:Int)+1)=t'/\t'<=l.length/\(∀k,C0d l t'=some k->N00 V' r1 k.time/\k.time.im=0)/\ascF none l=ascF ((C0d l t').map λk=>k.time.re) (l.drop t'))/\l.length-(IntKind.i64.wrap ((t:Int)+1)).toNat<l.length-(t:Int).toNat:=by
    intro V' l' hq
    rw[i64w (by omega) (by omega)]
    refine⟨⟨t+1,by omega,by omega,?_,?_⟩,by omega⟩
    . intro k' hk'
      rw[F0g,ek]at hk'
      obtain rfl:=Option.some.inj hk'
      exact⟨h1.le (View.le_trans l4 l'),d⟩
    . rw[hE,F0g,ek]
      conv=>lhs; unfold ascF
      rw[if_neg hr]
      cases hpa:C0d l t with
      | none=>rfl
      | some q =>
        simp only[Option.map_some]
        rw[if_neg (hq q hpa)]
   refine⟨λc0 => ?_,λc0=>step V4 (View.le_refl _) λq hq => ?_⟩
   . have hpos:0<t:=by simp at c0; omega
     have ep:l[t-1]?=some l[t-1]:=List.getElem?_eq_getElem (by omega)
     have hpa:C0d l t=some l[t-1]:=by unfold C0d; rw[if_neg (by omega),ep]
     obtain⟨ho1,ho2⟩:=ho _ hpa
     have zq:=(hz _ (List.getElem_mem (show t-1<l.length by omega))).1
     generalize l[t-1]=q at *
     refine(g06 (h1.le l4) (ho1.le (View.le_trans l3 l4)) (by omega) (by omega)).mono λv V5 l5 hv=>⟨_,hv,λe=>⟨_,rfl,?_⟩,λe=>step V5 l5 λq' hq' => ?_⟩
     . rw[j0i d ho2]at e
       have e:k.time.re<=q.time.re:=by
        rcases M0d k.time.re q.time.re with⟨g,_⟩|⟨g,_⟩|⟨_,g⟩
        . grind
        . grind
        . rw[g]at e; simp at e
       rw[hE,hpa]
       conv=>rhs; unfold ascF
       rw[if_neg hr]
       simp only[Option.map_some]
       rw[if_pos e]
     . rw[hpa]at hq'
       obtain rfl:=Option.some.inj hq'
       rw[j0i d ho2]at e
       rcases M0d k.time.re q.time.re with⟨_,g⟩|⟨_,g⟩|⟨g,_⟩
       . rw[g]at e; simp at e
       . rw[g]at e; simp at e
       . grind
   . have:t=0:=by simp at c0; omega
     subst this
     simp[C0d]at hq
 . have e:t=l.length:=by simp at hge; omega
   subst e
   rw[hE,List.drop_length]; rfl
theorem N0k{V:View}{s:Sl}{l:List Tk}(h:K07 V s l){S:Nat}(hz:∀k∈l,k.szle S)(hS:S<=2^30) :
 a00 prog y0f #[s.v] V λv _=>∃r:Int,v = .int .i64 r/\r=C0c l:=by
 refine y0e s V _ λb1 V1 l1 hb1 => ?_
 have hld:V1.load (some (Addr.mk b1 0 none))=some s.v:=by simp[View.load,hb1]
 exact⟨s,hld,(M0f (h.le l1) hz hS hld).mono λv V2 l2 ⟨r,hv,hr⟩=>⟨r,hv,r,rfl,hr⟩⟩
theorem O0k(z w:Cq) : -1<=z.cmp w/\z.cmp w<=1:=by
 unfold Cq.cmp
 split
 . rcases M0d z.re w.re with⟨_,g⟩|⟨_,g⟩|⟨_,g⟩<;>rw[g]<;>decide
 . rcases M0d z.im w.im with⟨_,g⟩|⟨_,g⟩|⟨_,g⟩<;>rw[g]<;>decide
theorem t0s{a b:Int}(ha : -1<=a/\a<=1)(hb : -1<=b/\b<=1):IntKind.i64.wrap (a*b)=a*b:=by
 have h1:a = -1\/a=0\/a=1:=by omega
 have h2:b = -1\/b=0\/b=1:=by omega
 rcases h1 with rfl|rfl|rfl<;>rcases h2 with rfl|rfl|rfl<;>decide
theorem G0p{V:View}{s:Sl}{l:List Tk}(h:K07 V s l)(hn:1<=l.length)(hn2:l.length<=2^40){x:NumV}{p:Cq}(hx:N00 V x p){S:Nat}(hz:∀k∈l,k.szle S)(zp:p.sz<=S)(hS:S<=2^28) :
 a00 prog d0j #[s.v,x.val] V λv V'=>∃(r:NumV) (b:Bool),v = .tuple #[r.val,.bool b]/\b=(z07 p l).isSome/\N00 V' r ((z07 p l).getD Cq.zero):=by
 have hl:s.len=l.length:=h.len
 have ek:l[0]?=some l[0]:=List.getElem?_eq_getElem (by omega)
 obtain⟨g,y,hy,_,hs,⟨h1,g1⟩,h2,g2⟩:=H0b h (t:=0) (by omega) (k:=l[0]) ek
 obtain⟨z1,z2⟩:=hz _ (List.getElem_mem (show 0<l.length by omega))
 have e0:z07 p l=if l[0].place=p then some l[0].time else I0e p l[0] (l.drop 1):=by
  rw[show z07 p l=z07 p (l.drop 0)from rfl,l0m ek]; rfl
 refine N0h s x V _ (λ_ z _=>∃(i:Nat) (a:Tk),z.t6=i/\1<=i/\i<=l.length/\l[i-1]?=some a/\z07 p l=I0e p a (l.drop i)) (λ_ z _=>l.length-z.t6.toNat) ⟨g,hs,y.place,h2,g2,?_⟩
 refine(L0b hy.place hx (by omega) (by omega)).mono λv V1 l1 hv=>⟨_,hv,λc => ?_,λc=>⟨?_,?_⟩⟩
 . have c:l[0].place=p:=by simpa using c
   rw[e0,if_pos c]
   exact⟨g,hs,y.time,g07 l1 h1,g1,_,_,rfl,rfl,hy.time.le l1⟩
 . have c:¬l[0].place=p:=by simpa using c
   exact⟨1,l[0],rfl,by omega,by omega,ek,by rw[e0,if_neg c]⟩
 rintro⟨t6,o4⟩ V2 l2 ⟨i,a,ei,i1,i2,ea,hE⟩
 dsimp only at ei ⊢
 subst ei
 have L2:=View.le_trans l1 l2
 rw[hl]
 refine⟨λhlt => ?_,λhge => ?_⟩
 . have hk:i<l.length:=by simp at hlt; omega
   rw[i64w (n:=(i:Int)-1) (by omega) (by omega),i64w (n:=(i:Int)+1) (by omega) (by omega)]
   have eb:l[i]?=some l[i]:=List.getElem?_eq_getElem hk
   obtain⟨za1,za2⟩:=hz a (List.mem_of_getElem? ea)
   obtain⟨zb1,zb2⟩:=hz _ (List.getElem_mem hk)
   rw[l0m eb]at hE
   obtain⟨ga,ya,hya,hha,hsa,_⟩:=H0b (h.le L2) (t:=(i:Int)-1) (by omega) (k:=a) (by rw[show((i:Int)-1).toNat=i-1 by omega]; exact ea)
   obtain⟨gb,yb,hyb,hhb,hsb,_⟩:=H0b (h.le L2) (t:=(i:Int)) (by omega) (k:=l[i]) (by rw[Int.toNat_natCast]; exact eb)
   rw[hl]at ga gb
   generalize l[i]=b at *
   have step:I0e p b (l.drop (i+1))=z07 p l->(∃(j:Nat) (a:Tk),((i:Int)+1)=j/\1<=j/\j<=l.length/\l[j-1]?=some a/\z07 p l=I0e p a (l.drop j))/\l.length-((i:Int)+1).toNat<l.length-(i:Int).toNat :=
    λhe=>⟨⟨i+1,b,by omega,by omega,by omega,by rw[Nat.add_sub_cancel]; exact eb,he.symm⟩,by omega⟩
   have eF:z07 p l=if 0<(a.place.cmp p)*(b.place.cmp p)\/a.place=b.place then I0e p b (l.drop (i+1))else some (i0i a.time b.time (j0k p a.place b.place)):=hE
   have hxx:=hx.le L2
   refine⟨ga,ya,hha,hsa,gb,yb,hhb,hsb,(g06 hya.place hxx (by omega) (by omega)).mono λv V3 l3 hv=>⟨_,hv,?_⟩⟩
   refine(g06 (hyb.place.le l3) (hxx.le l3) (by omega) (by omega)).mono λv V4 l4 hv=>⟨_,hv,?_⟩
   rw[t0s (O0k _ _) (O0k _ _)]
   have L4:=View.le_trans l3 l4
   refine⟨λc=>step ?_,λc=>(L0b (hya.place.le L4) (hyb.place.le L4) (by omega) (by omega)).mono λv V5 l5 hv=>⟨_,hv,λd=>step ?_,λd => ?_⟩⟩
   . rw[eF,if_pos (.inl (by simpa using c))]
   . rw[eF,if_pos (.inr (by simpa using d))]
   have c:¬0<(a.place.cmp p)*(b.place.cmp p):=by
    have:=of_decide_eq_false c
    exact this
   have d:¬a.place=b.place:=by simpa using d
   rw [if_neg (by rintro (g | g)
                  . exact c g
                  . exact d g)]at eF
   have L5:=View.le_trans L4 l5
   have s1:=j07 p a.place; have s2:=j07 b.place a.place
   have s3:=C0k (z:=p-a.place) (w:=b.place-a.place) (S:=2*S+2) (by omega) (by omega)
   refine(s0s (hxx.le L5) (hya.place.le L5) (hyb.place.le L5) zp za2 zb2 (by omega)).mono λv V6 l6 ⟨r5,hv,h5⟩=>⟨r5,hv,?_⟩
   refine(M0k (hya.time.le (View.le_trans L5 l6)) (hyb.time.le (View.le_trans L5 l6)) h5 (S:=8*S+16) (by omega) (by omega) (by show((p-a.place).div (b.place-a.place)).sz<=_; omega) (by omega)).mono λv V7 l7 ⟨r6,hv,h6⟩=>⟨r6,hv,?_⟩
   rw[eF]
   exact⟨_,_,rfl,rfl,h6⟩
 . have e:i=l.length:=by simp at hge; omega
   subst e
   rw[List.drop_length]at hE
   rw[hE]
   exact⟨_,_,rfl,rfl,N00.zero V2⟩
theorem u0s{V:View}{s:Sl}{l:List Tk}(h:K07 V s l){x:NumV}{p:Cq}(hx:N00 V x p){S:Nat}(hz:∀k∈l,k.szle S)(zp:p.sz<=S)(hS:S<=2^28) :
 a00 prog o0l #[s.v,x.val] V λv V'=>∃r:NumV,v = .tuple #[r.val,.int .i64 (l0k p l)]/\N00 V' r (m0k p l):=by
 have nil:∀(e:Int) (V':View),l0k p l=e->m0k p l=Cq.zero->∃r:NumV,Value.tuple #[zN.val,.int .i64 e]=Value.tuple #[r.val,.int .i64 (l0k p l)]/\N00 V' r (m0k p l):=λe V' he h0=>by
  rw[he,h0]; exact⟨_,rfl,N00.zero V'⟩
 refine M0j s x V _ ((N0k h hz (by omega)).mono λv V1 l1 ⟨r1,hv,e1⟩=>⟨r1,hv,λc => ?_,λc => ?_⟩)
 . have c:C0c l≠0:=by rw[<-e1]; simpa using c
   exact nil _ V1 (by unfold l0k; rw[if_neg c,e1]) (by unfold m0k; rw[if_neg (by rintro⟨g,_⟩; exact c g)])
 have c:C0c l=0:=by rw[<-e1]; simpa using c
 obtain⟨n1,n2,asc⟩:=A0r c
 refine(Q01 (hx.le l1)).mono λv V2 l2 hv=>⟨_,hv,λd => ?_,λd => ?_⟩
 . have d:¬p.im=0:=by simpa using d
   exact nil _ V2 (by unfold l0k; rw[if_pos c,if_neg d]) (by unfold m0k; rw[if_neg (by rintro⟨_,g⟩; exact d g)])
 have d:p.im=0:=by simpa using d
 have eE:l0k p l=if(z07 p l).isSome=true then 0 else 5:=by unfold l0k; rw[if_pos c,if_pos d]
 have eV:m0k p l=(z07 p l).getD Cq.zero:=by unfold m0k; rw[if_pos ⟨c,d⟩]
 have L2:=View.le_trans l1 l2
 refine(G0p (h.le L2) n1 (by omega) (hx.le L2) hz zp hS).mono λv V3 l3 ⟨r3,b,hv,hb,h3⟩=>⟨r3,b,hv,λf => ?_,λf => ?_⟩
 . have f:b=false:=by simpa using f
   rw[f]at hb
   refine nil 5 V3 (by rw[eE,<-hb]; rfl) ?_
   rw[eV]
   cases hq:z07 p l with
   | none=>rfl
   | some w=>rw[hq]at hb; simp at hb
 . have f:b=true:=by simpa using f
   rw[f]at hb
   rw[eE,eV,<-hb]
   exact⟨r3,rfl,h3⟩
def ms0:List Mk:=[⟨0,0,P3.zero⟩,⟨1,0,⟨intQ 2,Cq.zero,Cq.zero⟩⟩,⟨0,1,⟨intQ 1,intQ 3,Cq.zero⟩⟩]
def ts0:List Tk:=[⟨Cq.zero,Cq.zero⟩,⟨intQ 10,intQ 5⟩]
theorem C0m:fitE ms0=0:=by decide +kernel
theorem e0u:(if(fitF ms0).real=true then dotP (fitF ms0).u (fitF ms0).v else Cq.zero)=intQ 2:=by decide +kernel
theorem f0u:(fitF ms0).real=true:=by decide +kernel
theorem g0u:l0k (intQ 3) ts0=0:=by decide +kernel
theorem s0x:m0k (intQ 3) ts0=intQ 6:=by decide +kernel
theorem O0x:((cqS (intQ 2)).toList==(ByteArray.mk #[50]).toList)=true:=by decide +kernel
theorem P0x:((cqS (intQ 6)).toList==(ByteArray.mk #[54]).toList)=true:=by decide +kernel
theorem X0g{V:View}{n:Int}(h0 : -9223372036854775808<=n)(h1:n<=9223372036854775807) :
 a00 prog Y0i #[.int .i64 n] V λv V'=>∃r:NumV,v=r.val/\N00 V' r (intQ n):=S02 h0 h1
theorem e0w{V:View}:a00 prog Z0i #[.int .i64 4,.int .i64 2] V λv _=>v = .tuple #[.int .i64 (-2),.int .i64 0]:=by
 have h1:a00 prog q0h #[.int .i64 4] V λv _=>v = .bool true :=
  G0f 4 V _ ⟨λ_=>⟨λ_=>rfl,λh=>absurd h (by decide)⟩,λh=>absurd h (by decide)⟩
 refine P0h 4 2 V _ (h1.mono λv V1 _ hv=>⟨_,hv,λh=>absurd h (by decide),λ_=>⟨λh=>absurd h (by decide),λ_=>⟨λh=>absurd h (by decide),λ_ => ?_⟩⟩⟩)
 exact(O0h 4 2 V1 (λv _=>v = .int .i64 (-2)) ⟨λh=>absurd h (by decide),λ_=>rfl⟩).mono λv V2 _ hv=>⟨_,hv,rfl⟩
theorem A0i{V:View}:a00 prog Q05 #[] V λv _=>v = .bool true:=by
 refine a09 V _ ((X0g (by omega) (by omega)).mono λv V1 l1 ⟨r1,hv,h1⟩=>⟨r1,hv,?_⟩)
 refine(X0g (by omega) (by omega)).mono λv V2 l2 ⟨r2,hv,h2⟩=>⟨r2,hv,?_⟩
 refine(X0g (by omega) (by omega)).mono λv V3 l3 ⟨r3,hv,h3⟩=>⟨r3,hv,λb1 V4 l4 _ hb1 => ?_⟩
 have hz4:N00 V4 zN Cq.zero:=N00.zero V4
 have hM:a0f V4 (Sl.mk (some (Addr.mk b1 0 none)) 3 3) ms0:=by
  refine B00.of_block (V:=V4) (sz:=17) (P:=A0p) (zs:=ms0) (o:=(m0c.mk 0 0 ⟨zN,zN,zN⟩).val.cells.toList++((m0c.mk 1 0 ⟨r1,zN,zN⟩).val.cells.toList++(m0c.mk 0 1 ⟨r2,r3,zN⟩).val.cells.toList)) (o':=[]) (b:=b1) (λ_=>by rw[List.append_nil]; exact hb1) ?_ rfl (Nat.le_refl _) (λ_=>rfl)
  exact⟨_,_,rfl,rfl,⟨_,rfl,rfl,rfl,hz4,hz4,hz4⟩,_,_,rfl,rfl,⟨_,rfl,rfl,rfl,h1.le (View.le_trans l2 (View.le_trans l3 l4)),hz4,hz4⟩,_,[],by rw[List.append_nil],rfl,⟨_,rfl,rfl,rfl,h2.le (View.le_trans l3 l4),h3.le l4,hz4⟩,rfl⟩
 have s0:∀m∈ms0,m.in64/\m.p.szle 1100:=by
  have z0:Cq.zero.sz<=64:=by decide +kernel
  have i0:∀n:Int,-9223372036854775808<=n/\n<=9223372036854775807->(intQ n).sz<=1100:=λn h=>Nat.le_trans (M07 h) (by omega)
  intro m hm
  simp only[ms0,List.mem_cons,List.not_mem_nil,or_false]at hm
  rcases hm with rfl|rfl|rfl
  . exact⟨⟨⟨by decide,by decide⟩,⟨by decide,by decide⟩⟩,Nat.le_trans z0 (by omega),Nat.le_trans z0 (by omega),Nat.le_trans z0 (by omega)⟩
  . exact⟨⟨⟨by decide,by decide⟩,⟨by decide,by decide⟩⟩,i0 2 (by omega),Nat.le_trans z0 (by omega),Nat.le_trans z0 (by omega)⟩
  . exact⟨⟨⟨by decide,by decide⟩,⟨by decide,by decide⟩⟩,i0 1 (by omega),i0 3 (by omega),Nat.le_trans z0 (by omega)⟩
 refine(a0u hM (λm hm=>(s0 m hm).1) (λm hm=>(s0 m hm).2)).mono λv V5 l5 ⟨r4,hv,h4,hsz⟩=>⟨r4,_,hv,?_⟩
 rw[C0m]at h4
 simp only[if_true]at h4
 refine(e0s h4 (hsz C0m) (by omega)).mono λv V6 l6 ⟨r6,hv,h6⟩=>⟨r6,_,hv,?_⟩
 rw[e0u]at h6
 refine(X0g (by omega) (by omega)).mono λv V7 l7 ⟨r8,hv,h8⟩=>⟨r8,hv,?_⟩
 refine(X0g (by omega) (by omega)).mono λv V8 l8 ⟨r9,hv,h9⟩=>⟨r9,hv,λb2 V9 l9 _ hb2 => ?_⟩
 have hz9:N00 V9 zN Cq.zero:=N00.zero V9
 have hT:K07 V9 (Sl.mk (some (Addr.mk b2 0 none)) 2 2) ts0:=by
  refine B00.of_block (V:=V9) (sz:=10) (P:=t0p) (zs:=ts0) (o:=(n0c.mk zN zN).val.cells.toList++(n0c.mk r8 r9).val.cells.toList) (o':=[]) (b:=b2) (λ_=>by rw[List.append_nil]; exact hb2) ?_ rfl (Nat.le_refl _) (λ_=>rfl)
  exact⟨_,_,rfl,rfl,⟨_,rfl,hz9,hz9⟩,_,[],by rw[List.append_nil],rfl,⟨_,rfl,h8.le (View.le_trans l8 l9),h9.le l9⟩,rfl⟩
 refine(X0g (by omega) (by omega)).mono λv V10 l10 ⟨r10,hv,h10⟩=>⟨r10,hv,?_⟩
 have t0:∀k∈ts0,k.szle 64:=by
  have z0:Cq.zero.sz<=64:=by decide +kernel
  intro k hk
  simp only[ts0,List.mem_cons,List.not_mem_nil,or_false]at hk
  rcases hk with rfl|rfl
  . exact⟨z0,z0⟩
  . exact⟨M07 (by omega),M07 (by omega)⟩
 refine(u0s (S:=64) (hT.le l10) h10 t0 (M07 (by omega)) (by omega)).mono λv V11 l11 ⟨r11,hv,h11⟩=>⟨r11,_,hv,?_⟩
 rw[s0x]at h11
 refine e0w.mono λv V12 l12 hv=>⟨_,_,hv,λ_=>⟨λ_ => ?_,λh => ?_⟩,λh => ?_⟩
 . have L12:=View.le_trans l7 (View.le_trans l8 (View.le_trans l9 (View.le_trans l10 (View.le_trans l11 l12))))
   have i2:(intQ 2).sz<=2^40:=Nat.le_trans (M07 (by omega)) (by omega)
   have i6:(intQ 6).sz<=2^40:=Nat.le_trans (M07 (by omega)) (by omega)
   refine(S0b (h6.le L12) i2).mono λv V13 l13 hv=>⟨_,hv,λ_=>⟨λ_ => ?_,λh => ?_⟩,λh => ?_⟩
   . refine(S0b (h11.le (View.le_trans l12 l13)) i6).mono λv V14 _ hv=>⟨_,hv,λ_=>⟨λ_=>rfl,λh=>absurd h (by decide)⟩,λh => ?_⟩
     rw[P0x]at h; exact absurd h (by decide)
   . rw[g0u]at h; exact absurd h (by decide)
   . rw[O0x]at h; exact absurd h (by decide)
 . rw[if_pos f0u]at h; exact absurd h (by decide)
 . rw[C0m]at h; exact absurd h (by decide)
end Go.Proofs.YtfdaofhjkdabbaaGreat
namespace Go.Proofs.YtfdaofhjkdabbaaGreat
open Go Go.Vc Go.Proofs Go.ChangeShapes Go.RowKit
theorem w0s{cs:List Value}(h:P0e [] cs):cs=[]:=by
 cases cs with
 | nil=>rfl
 | cons _ _=>exact h.elim
section
variable {H:Type} {enc:TypeId×Value->H} {P:Program} {w:World} {base:Nat} {spare:Nat->Bool} {held:Bool} {t:TypeId} {v:Value} {dd:DataW H} {ps:List MemPlace}
end
end Go.Proofs.YtfdaofhjkdabbaaGreat
namespace Go.Proofs.YtfdaofhjkdabbaaGreat
open Go Go.Vc Go.Proofs
theorem oneB{V:View}{x:List Value}{b:Bk}(h:boxC V x b):∀v∈x,Value.oneCell' v=true:=by
 obtain⟨e,_⟩:=h
 subst e
 intro v hv
 have e:b.v.val.cells.toList=[.float .f64 b.v.re.lo,.float .f64 b.v.re.hi,.float .f64 b.v.im.lo,.float .f64 b.v.im.hi]:=rfl
 rw[e]at hv
 simp only[List.mem_cons,List.not_mem_nil,or_false]at hv
 rcases hv with rfl|rfl|rfl|rfl<;>rfl
theorem Q0x{V:View}{o:List Value}{row:List Bk}(h:j01 4 boxC V o row):∀v∈o,Value.oneCell' v=true:=by
 induction row generalizing o with
 | nil=>rw[show o=[]from h]; simp
 | cons z zs ih =>
   obtain⟨x,o',e,hx,hp,ht⟩:=h
   subst e
   intro v hv
   rw[List.mem_append]at hv
   rcases hv with hv|hv
   . exact oneB hp v hv
   . exact ih ht v hv
theorem X0b{m V:View}{s:Sl}{row:List Bk}{o:List Value}(hC:j01 4 boxC V o row)(ho:has2 m V s.a o)(hl:s.len=row.length)(ha:s.a=none->row=[])(hb:row.length<=2^30) :
 k07 Tryz.prog I03 #[s.v] m V λv m' V'=>∃(r:Sl) (b:Nat),v=r.v/\RowR 4 boxC m' V' r b row/\(row≠[]->m b=none)/\(∀i,i≠b\/row=[]->m' i=m i):=by
 refine k05 m s V _ ⟨trivial,λh => ?_,λh b1 V1 l1 hf hb1 => ?_⟩
 . have e:=ha (by simpa using h)
   exact⟨⟨none,0,0⟩,0,rfl,⟨by rw[e]; rfl,Nat.le_refl _,λ_=>rfl,λh=>absurd e h⟩,λh=>absurd e h,λ_ _=>rfl⟩
 . have hol:=hC.length
   refine⟨[],o,⟨Nat.le_refl _,λh=>by simp at h⟩,.inl (by intro j v hj; simp at hj),by simp,e09 l1 ho,by rw[hol,hl],Q0x hC,by unfold maxLen; omega,by omega,λh1 h2=>by omega,λa1 c1 m1 ha1 => ?_⟩
   have hC1:j01 4 boxC V1 o row:=hC.imp (boxC.le l1)
   obtain⟨b,hr,hb2,hm,hm2⟩:=Z0g hC1 rfl hl ha1
   exact⟨_,b,rfl,hr,hb2,λi hi=>by
    rcases hi with hi|hi
    . exact hm i hi
    . rw[hm2 hi]⟩
theorem N0f{V:View}{s:Sl}{row:List Bk}(h:B00 4 boxC V s row)(hb:row.length<=2^30) :
 a00 Tryz.prog I03 #[s.v] V λv V'=>∃r:Sl,v=r.v/\B00 4 boxC V' r row:=by
 obtain⟨hl,hc,hn,o,ho,hC⟩:=h
 refine k07.known (X0b (m:=λ_=>none) hC (.inr ho) hl (λe => ?_) hb) λv m V' V2 l e ap ⟨r,b,hv,hr,_⟩=>⟨r,hv,?_⟩
 . rcases Classical.em (row=[])with g|g
   . exact g
   . have:=hn g; rw[e]at this; simp at this
 . subst e
   exact hr.known (boxC.le (b0h ap)) (λb cs g=>W0k g)
theorem y06{V:View}{p:Sl}{rows:List (List Bk)}(h:A04 4 boxC V p rows) :
 a00 Tryz.prog B06 #[p.v] V λv V'=>∃g:t04,v = .tuple #[g.val,.int .i64 (u0p rows)]/\A04 4 boxC V' g.rows (w0p rows):=by
 have hl:p.len=rows.length:=h.len
 have bad:∀V':View,d07 rows=false->∃g:t04,Value.tuple #[(t04.mk (Sl.mk none 0 0)).val,.int .i64 4] = .tuple #[g.val,.int .i64 (u0p rows)]/\A04 4 boxC V' g.rows (w0p rows):=λV' e=>by
  refine⟨⟨⟨none,0,0⟩⟩,?_,?_⟩
  . unfold u0p; rw[e]; rfl
  . unfold w0p; rw[e]; exact B00.nil
 refine p06 p V _ (λ_ _ _=>1<=rows.length/\rows.length<=64)
  (λ_ x V'=>∃(t:Nat) (l:List Value),x.t18=t/\t<=rows.length/\g04 1 x.o4_0l x.o4_0c x.o45 l/\x.o4_0l=t/\j01 1 (λV x row=>∃s:Sl,x=[s.v]/\B00 4 boxC V s row) V' l (rows.take t)/\∀row∈rows.take t,J0b (L07 rows) row=true)
  (λ_ x _=>rows.length-x.t18.toNat) ?_
 rw[hl]
 refine⟨⟨λc=>bad V ?_,λc=>⟨λc'=>bad V ?_,λc' => ?_⟩⟩,?_⟩
 . unfold d07
   have c:=of_decide_eq_true c
   have:decide (1<=rows.length)=false:=decide_eq_false (by omega)
   rw[this]; rfl
 . unfold d07
   have c':=of_decide_eq_true c'
   have:decide (rows.length<=64)=false:=decide_eq_false (by omega)
   rw[this,Bool.false_and,Bool.and_false]
 . have c:=of_decide_eq_false c
   have c':=of_decide_eq_false c'
   omega
 rintro⟨o2⟩ V1 l1 ⟨n1,n2⟩
 refine⟨⟨0,[],rfl,by omega,g04.nil,rfl,rfl,by simp⟩,?_⟩
 rintro⟨t18,o2',k,c,o⟩ V2 l2 ⟨t,l,et,ht,hL,ek,hC,hall⟩
 dsimp only at et hL ek hC ⊢
 subst et; subst ek
 have L2:=View.le_trans l1 l2
 refine⟨λhlt => ?_,λhge => ?_⟩
 . have hk:k<rows.length:=by simp at hlt; omega
   have ek:rows[k]?=some rows[k]:=List.getElem?_eq_getElem hk
   have hmem:=List.getElem_mem hk
   obtain⟨g,s,h1,h2⟩:=(A04.le boxC.le L2 h).row (t:=(k:Int)) (by omega) (row:=rows[k]) (by rw[Int.toNat_natCast]; exact ek)
   have hs:s.len=rows[k].length:=h2.len
   rw[hl]at g
   have tk:rows.take (k+1)=rows.take k++[rows[k]]:=by rw[List.take_add_one,ek]; rfl
   generalize rows[k]=row at *
   have no:J0b (L07 rows) row=false->d07 rows=false:=λe=>by
    unfold d07
    rw[List.all_eq_false.2 ⟨row,hmem,by rw[e]; simp⟩,Bool.and_false,Bool.and_false]
   refine⟨g,s,h1,λc1=>bad V2 (no ?_),λc1=>⟨λc2=>bad V2 (no ?_),λc2 => ?_⟩⟩
   . unfold J0b
     have c1:=of_decide_eq_true c1
     have:decide (1<=row.length)=false:=decide_eq_false (by omega)
     rw[this]; rfl
   . unfold J0b
     have c2:=of_decide_eq_true c2
     have:decide (row.length<=64)=false:=decide_eq_false (by omega)
     rw[this,Bool.false_and,Bool.and_false]
   obtain⟨row0,e0,e1⟩:=k0i (rows:=rows) (by omega)
   obtain⟨g0,s0,h3,h4⟩:=(A04.le boxC.le L2 h).row (t:=(0:Int)) (by omega) (row:=row0) e0
   have hs0:s0.len=L07 rows:=by rw[<-e1]; exact h4.len
   rw[hl]at g0
   refine⟨g0,s0,h3,λc3=>bad V2 (no ?_),λc3 => ?_⟩
   . unfold J0b
     have:decide (row.length=L07 rows)=false:=decide_eq_false (λe=>by rw[hs,hs0,e]at c3; simp at c3)
     rw[this,Bool.and_false,Bool.and_false]
   have ok:J0b (L07 rows) row=true:=by
    have c1:=of_decide_eq_false c1
    have c2:=of_decide_eq_false c2
    have c3:row.length=L07 rows:=by rw[hs,hs0]at c3; simp at c3; omega
    unfold J0b
    rw[decide_eq_true (show 1<=row.length by omega),decide_eq_true (show row.length<=64 by omega),decide_eq_true c3]; rfl
   refine(N0f h2 (by have:=of_decide_eq_false c2; omega)).mono λv V3 l3 ⟨r1,hv,hr⟩=>⟨r1,hv,λb1 V4 l4 _ hb1 => ?_⟩
   have hnew:V4.has (some (Addr.mk b1 0 none)) [r1.v]:=x04 (cs:=[r1.v]) (j:=0) hb1 (λi v hv=>by rw[Nat.zero_add]; exact hv) rfl
   refine⟨l,_,hL,hnew,rfl,by intro v hv; simp at hv; subst hv; rfl,by unfold maxLen; omega,by omega,λc1 l3' hl3 => ?_⟩
   rw[i64w (by omega) (by omega)]
   have L24:=View.le_trans l3 l4
   refine⟨⟨k+1,_,by omega,by omega,hl3,rfl,?_,λrow' hr' => ?_⟩,by omega⟩
   . rw[tk]
     exact(hC.imp λ_ _ ⟨s,e,hs⟩=>⟨s,e,B00.le (boxC.le L24) L24 hs⟩).append (j01.one rfl ⟨_,rfl,B00.le (boxC.le l4) l4 hr⟩)
   . rw[tk]at hr'
     rcases List.mem_append.1 hr' with hr'|hr'
     . exact hall row' hr'
     . rw[show row'=row by simpa using hr']; exact ok
 . have e:k=rows.length:=by simp at hge; omega
   subst e
   rw[List.take_length]at hC hall
   intro b2 V5 l5 hb2
   have ok:d07 rows=true:=by
    unfold d07
    simp only[Bool.and_eq_true,decide_eq_true_eq,List.all_eq_true]
    exact⟨n1,n2,hall⟩
   refine⟨⟨⟨lstA b2 c,rows.length,c⟩⟩,by unfold u0p; rw[ok]; rfl,?_⟩
   unfold w0p; rw[if_pos ok]
   exact O08 hL hb2 (hC.imp λ_ _ ⟨s,e,hs⟩=>⟨s,e,B00.le (boxC.le l5) l5 hs⟩) rfl
theorem l08{V:View}{g:t04}{rows:List (List Bk)}(h:A04 4 boxC V g.rows rows) :
 a00 Tryz.prog D05 #[g.val] V λv _=>v = .tuple #[.int .i64 (rows.length:Int),.int .i64 (L07 rows:Int)]:=by
 have hl:g.rows.len=rows.length:=h.len
 refine l05 g V _ ⟨λc => ?_,λc => ?_⟩
 . have e:rows=[]:=List.length_eq_zero_iff.1 (by simp at c; omega)
   subst e; rfl
 . obtain⟨row0,e0,e1⟩:=k0i (rows:=rows) (by simp at c; omega)
   obtain⟨g0,s0,h3,h4⟩:=h.row (t:=(0:Int)) (by omega) (row:=row0) e0
   refine⟨g0,s0,h3,?_⟩
   rw[h4.len,e1,hl]
theorem j0f{V:View}{g:t04}{rows:List (List Bk)}{i j:Int}(h:A04 4 boxC V g.rows rows)(hr:Rect rows)(d:Bk) :
 a00 Tryz.prog S05 #[g.val,.int .i64 i,.int .i64 j] V λv V'=>∃(r:BoxV) (e:Int),v = .tuple #[r.val,.int .i64 e] /\
  ((0<=i/\i<rows.length)/\(0<=j/\j<L07 rows)->e=0/\boxC V' r.val.cells.toList ((rows.getD i.toNat []).getD j.toNat d)) /\
  (¬((0<=i/\i<rows.length)/\(0<=j/\j<L07 rows))->e=1):=by
 refine E05 g i j V _ ((l08 h).mono λv V1 l1 hv=>⟨_,_,hv,λc => ?_,λc=>⟨λc2 => ?_,λc2=>⟨λc3 => ?_,λc3=>⟨λc4 => ?_,λc4 => ?_⟩⟩⟩⟩)
 . have c:=of_decide_eq_true c
   exact⟨_,_,rfl,λk=>absurd k.1.1 (by omega),λ_=>rfl⟩
 . have c2:=of_decide_eq_true c2
   exact⟨_,_,rfl,λk=>absurd k.1.2 (by omega),λ_=>rfl⟩
 . have c3:=of_decide_eq_true c3
   exact⟨_,_,rfl,λk=>absurd k.2.1 (by omega),λ_=>rfl⟩
 . have c4:=of_decide_eq_true c4
   exact⟨_,_,rfl,λk=>absurd k.2.2 (by omega),λ_=>rfl⟩
 . have c:=of_decide_eq_false c
   have c2:=of_decide_eq_false c2
   have c3:=of_decide_eq_false c3
   have c4:=of_decide_eq_false c4
   have hi:i.toNat<rows.length:=by omega
   have ek:rows[i.toNat]?=some (rows.getD i.toNat []):=by simp[List.getD,hi]
   obtain⟨g1,s,h1,h2⟩:=(A04.le boxC.le l1 h).row (t:=i) (by omega) ek
   have hrl:=n0k hr ek
   have hj:j.toNat<(rows.getD i.toNat []).length:=by omega
   obtain⟨g2,x,hx,_,hh,hs⟩:=B00.get h2 (t:=j) (by omega) (z:=(rows.getD i.toNat []).getD j.toNat d) (I0b hj d)
   obtain⟨y,ey⟩:∃y:BoxV,x=y.val.cells.toList:=by obtain⟨e,_⟩:=hx; exact⟨_,e⟩
   subst ey
   exact⟨g1,s,h1,g2,y,hh,hs,_,_,rfl,λ_=>⟨rfl,hx⟩,λk=>absurd ⟨⟨by omega,by omega⟩,by omega,by omega⟩ k⟩
structure Ds where
 i:Int
 j:Int
 n:Int
def D0m(q:Sk)(i j:Nat)(b:Bk):Option Ds->Option Ds
 | none=>none
 | some s=>if T03 (Bk.norm b) q=1 then some ⟨i,j,s.n+1⟩else if T03 q (Bk.norm b)=1 then some s else none
def dRow(q:Sk)(i:Nat)(o:Option Ds)(row:List Bk):Nat->Option Ds
 | 0=>o
 | k+1=>D0m q i k (row.getD k Bk.nil) (dRow q i o row k)
def c09(q:Sk)(rows:List (List Bk)):Nat->Option Ds
 | 0=>some ⟨0,0,0⟩
 | t+1=>dRow q t (c09 q rows t) (rows.getD t []) (rows.getD t []).length
theorem P0k(q:Sk)(i:Nat)(row:List Bk):∀k,dRow q i none row k=none
 | 0=>rfl
 | k+1=>by rw[dRow,P0k q i row k]; rfl
theorem Y0g{q:Sk}{i:Nat}{o:Option Ds}{row:List Bk}{k:Nat}(h:dRow q i o row k=none):∀m,k<=m->dRow q i o row m=none
 | 0,hk=>by rw[show k=0 by omega]at h; exact h
 | m+1,hk=>by
   rcases Nat.lt_or_ge m k with g|g
   . rw[show m+1=k by omega]; exact h
   . rw[dRow,Y0g h m g]; rfl
theorem k0f{q:Sk}{rows:List (List Bk)}{t:Nat}(h:c09 q rows t=none):∀m,t<=m->c09 q rows m=none
 | 0,hk=>by rw[show t=0 by omega]at h; exact h
 | m+1,hk=>by
   rcases Nat.lt_or_ge m t with g|g
   . rw[show m+1=t by omega]; exact h
   . rw[c09,k0f h m g]; exact P0k _ _ _ _
theorem x0s{q:Sk}{rows:List (List Bk)}{t k:Nat}(ht:t<rows.length)(hk:k<=(rows.getD t []).length)(h:dRow q t (c09 q rows t) (rows.getD t []) k=none):c09 q rows rows.length=none :=
 k0f (t:=t+1) (Y0g h _ hk) _ ht
def four:Cq:=⟨((4:Int):Rat),0⟩
def t06(z:Cq):Sk:=arS (z.div four) (z.div four)
def Y0b(rows:List (List Bk))(z:Cq):Ds :=
 if rows.length=0 then⟨0,0,4⟩else if z.im=0/\0<z.re then
  (match c09 (t06 z) rows rows.length with
  | none=>⟨0,0,5⟩
  | some s=>if s.n=1 then⟨s.i,s.j,0⟩else⟨0,0,5⟩)else⟨0,0,1⟩
def Ds.val(s:Ds):Value := .tuple #[.int .i64 s.i,.int .i64 s.j,.int .i64 s.n]
theorem i0u{V:View}{g:t04}{rows:List (List Bk)}{i j:Nat}(h:A04 4 boxC V g.rows rows)(hr:Rect rows)(hi:i<rows.length)(hj:j<L07 rows) :
 a00 Tryz.prog l0a #[g.val,.int .i64 (i:Int),.int .i64 (j:Int)] V λv _=>v=((rows.getD i []).getD j Bk.nil).v.val/\((rows.getD i []).getD j Bk.nil).ok:=by
 refine p09 g i j V _ ((j0f (i:=(i:Int)) (j:=(j:Int)) h hr Bk.nil).mono λv V1 _ ⟨r,e,hv,h1,_⟩=>⟨r,e,hv,?_⟩)
 obtain⟨_,hb⟩:=h1 ⟨⟨by omega,by omega⟩,by omega,by omega⟩
 rw[Int.toNat_natCast,Int.toNat_natCast]at hb
 obtain⟨e1,e2⟩:=hb
 refine⟨?_,e2⟩
 have:r=((rows.getD i []).getD j Bk.nil).v:=by
  obtain⟨⟨a,b⟩,⟨c,d⟩⟩:=r
  generalize ((rows.getD i []).getD j Bk.nil).v=y at *
  obtain⟨⟨a',b'⟩,⟨c',d'⟩⟩:=y
  simp[BoxV.val]at e1
  obtain⟨rfl,rfl,rfl,rfl⟩:=e1
  rfl
 rw[this]
theorem y0s{q:Sk}{i k:Nat}{o:Option Ds}{row:List Bk}:dRow q i o row (k+1)=D0m q i k (row.getD k Bk.nil) (dRow q i o row k):=rfl
theorem z0s:four.sz<=64:=by
 refine(Rep.ofInt 4).sz (k:=64) ?_ (by decide) (by decide)
 exact W03 (by omega)
theorem f0w:four≠Cq.zero:=by decide
theorem H0n{z:Cq}(h:z.im=0):z.cmp Cq.zero=cmpR z.re 0:=j0i h rfl
theorem A0s{x:Rat}:cmpR x 0<=0↔¬0<x:=by
 unfold cmpR
 by_cases c:x<0
 . rw[if_pos c]
   exact⟨λ_ g=>by grind,λ_=>by decide⟩
 . rw[if_neg c]
   by_cases d:x=0
   . rw[if_pos d]; exact⟨λ_ g=>by grind,λ_=>by decide⟩
   . rw[if_neg d]; exact⟨λg=>absurd g (by decide),λg=>absurd (show 0<x by grind) g⟩
set_option maxHeartbeats 1000000 in
theorem Q0k{V:View}{g:t04}{x:NumV}{rows:List (List Bk)}{z:Cq}(h:A04 4 boxC V g.rows rows)(hr:Rect rows)(hn:rows.length<=64)(hc:L07 rows<=64)(hx:N00 V x z)(hz:z.sz<=64) :
 a00 Tryz.prog m0l #[g.val,x.val] V λv _=>v=(Y0b rows z).val:=by
 have zq:=C0k (z:=z) (w:=four) (S:=64) hz z0s
 have hq:(t06 z).ok:=T0u _ _
 refine N0j g x V _ (λc y _=>c.t7=rows.length/\c.t8=L07 rows/\y.t4=0/\y.t5=0/\z.im=0/\0<z.re/\0<rows.length)
  (λc y _=>∃t:Nat,y.t46=t/\t<=rows.length/\c09 (t06 z) rows t=some ⟨y.t4,y.t5,y.t13⟩/\0<=y.t13/\y.t13<=t*64) (λc y _=>rows.length-y.t46.toNat)
  (λc y _=>∃t k:Nat,c.t46=t/\t<rows.length/\y.t50=k/\k<=L07 rows/\dRow (t06 z) t (c09 (t06 z) rows t) (rows.getD t []) k=some ⟨y.t4,y.t5,y.t13⟩/\0<=y.t13/\y.t13<=t*64+k) (λc y _=>L07 rows-y.t50.toNat) ?_
 refine(l08 h).mono λv V1 l1 hv=>⟨_,_,hv,λc => ?_,λc=>⟨?_,?_⟩⟩
 . have c:rows.length=0:=by simpa using c
   unfold Y0b; rw[if_pos c]; rfl
 . have c:rows.length≠0:=by intro e; rw[e]at c; exact absurd c (by decide)
   refine(Q01 (hx.le l1)).mono λv V3 l3 hv=>⟨_,hv,λd => ?_,λd => ?_⟩
   . have d:¬z.im=0:=by simpa using d
     unfold Y0b; rw[if_neg c,if_neg (λg=>d g.1)]; rfl
   have d:z.im=0:=by simpa using d
   refine(S02 (n:=0) (by decide) (by decide)).mono λv V4 l4 ⟨r4,hv,h4⟩=>⟨r4,hv,?_⟩
   have h4:N00 V4 r4 Cq.zero:=h4
   refine(g06 (hx.le (View.le_trans l1 (View.le_trans l3 l4))) h4 (by omega) (Nat.le_trans P06 (by omega))).mono λv V5 l5 hv=>⟨_,hv,λe => ?_,λe => ?_⟩
   . have e:=of_decide_eq_true e
     rw[H0n d,A0s]at e
     unfold Y0b; rw[if_neg c,if_neg (λg=>e g.2)]; rfl
   . have e:=of_decide_eq_false e
     rw[H0n d,A0s,Classical.not_not]at e
     exact⟨rfl,rfl,rfl,rfl,d,e,by omega⟩
 rintro⟨t4,t5⟩ V2 l2 ⟨_,_,e4,e5,him,hre,hpos⟩
 dsimp only at e4 e5
 subst e4; subst e5
 have fin:∀s,c09 (t06 z) rows rows.length=s->Y0b rows z=(match s with|none=>⟨0,0,5⟩|some s=>if s.n=1 then⟨s.i,s.j,0⟩else⟨0,0,5⟩):=λs e=>by
  unfold Y0b; rw[if_neg (by omega),if_pos ⟨him,hre⟩,e]
 refine(S02 (n:=4) (by decide) (by decide)).mono λv V6 l6 ⟨r6,hv,h6⟩=>⟨r6,hv,?_⟩
 have h6:N00 V6 r6 four:=h6
 have four40:=z0s
 refine(J09 (hx.le (View.le_trans l1 (View.le_trans l2 l6))) h6 (by omega) (by omega)).mono λv V7 l7 ⟨r7,e7,hv,_,h7⟩=>⟨r7,e7,hv,?_⟩
 obtain⟨_,h7⟩:=h7 f0w
 refine(L0k h7 h7 (by omega) (by omega)).mono λv V8 l8 hv=>⟨_,_,hv,⟨0,rfl,by omega,rfl,by decide,by decide⟩,?_⟩
 have L8:=View.le_trans l1 (View.le_trans l2 (View.le_trans l6 (View.le_trans l7 l8)))
 rintro⟨y4,y5,y13,y46⟩ V9 l9 ⟨t,et,ht,hD,hn0,hn1⟩
 dsimp only at et hD hn0 hn1 ⊢
 subst et
 refine⟨λhlt=>⟨⟨t,0,rfl,by have:=of_decide_eq_true hlt; omega,rfl,by omega,hD,hn0,by omega⟩,?_⟩,λhge => ?_⟩
 . have hk:t<rows.length:=by have:=of_decide_eq_true hlt; omega
   have ek:=I0b hk []
   have hrl:=n0k hr ek
   rintro⟨z4,z5,z13,z50⟩ V10 l10 ⟨t',k,et,_,ek2,hkc,hR,hm0,hm1⟩
   dsimp only at et ek2 hR hm0 hm1 ⊢
   obtain rfl:t'=t:=by omega
   subst ek2
   refine⟨λhlt2 => ?_,λhge2 => ?_⟩
   . have hkk:k<L07 rows:=by have:=of_decide_eq_true hlt2; omega
     refine(i0u (A04.le boxC.le (View.le_trans L8 (View.le_trans l9 l10)) h) hr hk hkk).mono λv V11 l11 ⟨hv,hb⟩=>⟨_,hv,?_⟩
     have hno:(Bk.norm ((rows.getD t' []).getD k Bk.nil)).ok:=m08 _
     have hst:=y0s (q:=t06 z) (i:=t') (k:=k) (o:=c09 (t06 z) rows t') (row:=rows.getD t' [])
     rw[hR]at hst
     refine(y0i hb).mono λv V12 l12 hv=>⟨_,hv,(M09 hno hq).mono λv V13 l13 hv=>⟨_,hv,λc1 => ?_,λc1=>(M09 hq hno).mono λv V14 l14 hv=>⟨_,hv,λc2 => ?_,λc2 => ?_⟩⟩⟩
     . have c1:T03 (Bk.norm ((rows.getD t' []).getD k Bk.nil)) (t06 z)=1:=by simpa using c1
       unfold D0m at hst
       dsimp only at hst
       rw[if_pos c1]at hst
       rw[i64w (n:=(k:Int)+1) (by omega) (by omega),i64w (n:=z13+1) (by omega) (by omega)]
       exact⟨⟨t',k+1,rfl,hk,by omega,by omega,hst,by omega,by omega⟩,by omega⟩
     . have c1:¬T03 (Bk.norm ((rows.getD t' []).getD k Bk.nil)) (t06 z)=1:=by simpa using c1
       have c2:¬T03 (t06 z) (Bk.norm ((rows.getD t' []).getD k Bk.nil))=1:=by simpa using c2
       unfold D0m at hst
       dsimp only at hst
       rw[if_neg c1,if_neg c2]at hst
       rw[fin none (x0s hk (by rw[hrl]; omega) hst)]; rfl
     . have c1:¬T03 (Bk.norm ((rows.getD t' []).getD k Bk.nil)) (t06 z)=1:=by simpa using c1
       have c2:T03 (t06 z) (Bk.norm ((rows.getD t' []).getD k Bk.nil))=1:=by simpa using c2
       unfold D0m at hst
       dsimp only at hst
       rw[if_neg c1,if_pos c2]at hst
       rw[i64w (by omega) (by omega)]
       exact⟨⟨t',k+1,rfl,hk,by omega,by omega,hst,hm0,by omega⟩,by omega⟩
   . have e:k=L07 rows:=by have:=of_decide_eq_false hge2; omega
     subst e
     rw[i64w (by omega) (by omega)]
     exact⟨⟨t'+1,by omega,by omega,by rw[c09,hrl]; exact hR,hm0,by omega⟩,by omega⟩
 . have e:t=rows.length:=by have:=of_decide_eq_false hge; omega
   subst e
   refine⟨λc => ?_,λc => ?_⟩
   . have c:¬y13=1:=by simpa using c
     rw[fin _ hD]; simp only[if_neg c]; rfl
   . have c:y13=1:=by simpa using c
     rw[fin _ hD]; simp only[if_pos c]; rfl
theorem B0s{s t:Sk}:T03 s t=1↔s.hi<t.lo:=by
 unfold T03
 by_cases c:s.hi<t.lo
 . rw[if_pos c]; exact⟨λ_=>c,λ_=>rfl⟩
 . rw[if_neg c]
   refine⟨λh => ?_,λh=>absurd h c⟩
   split at h<;>exact absurd h (by decide)
def J0c(w:Int):Nat:=(FloatKind.f64.format.div (FloatKind.f64.nearest w) 4634204016564240384).getD 0
def t0x(w:Nat):Bool:=match FloatKind.f64.format.div (FloatKind.f64.nearest (w:Int)) 4634204016564240384 with
 | some e=>decide (e<2^64)
 | none=>false
theorem j0u:(List.range 256).all t0x=true:=by decide +kernel
theorem g0w{w:Int}(h0:0<=w)(h1:w<=255):FloatKind.f64.format.div (FloatKind.f64.nearest w) 4634204016564240384=some (J0c w)/\J0c w<2^64:=by
 have:=List.all_eq_true.1 j0u w.toNat (by simp; omega)
 unfold t0x at this
 rw[Int.toNat_of_nonneg h0]at this
 unfold J0c
 cases e:FloatKind.f64.format.div (FloatKind.f64.nearest w) 4634204016564240384 with
 | none=>rw[e]at this; simp at this
 | some r=>rw[e]at this; exact⟨rfl,by simpa using this⟩
theorem C0s(b:BoxV):∀v∈b.val.cells.toList,Value.oneCell' v=true:=by
 intro v hv
 simp[BoxV.val,Value.cells]at hv
 rcases hv with rfl|rfl|rfl|rfl<;>rfl
section
variable {q:Sk} {rows:List (List Bk)} {p c:Nat}
def B07(rows:List (List Bk))(i j:Nat):Sk:=Bk.norm ((rows.getD i []).getD j Bk.nil)
theorem D0s(h:∀i j,i<rows.length->j<(rows.getD i []).length->¬(i=p/\j=c)->¬T03 (B07 rows i j) q=1){i:Nat}(hi:i<rows.length){o:Option Ds}(ho:o=none\/∃s,o=some s/\(s.n=0\/s=⟨p,c,1⟩/\p<i)) :
 ∀k,k<=(rows.getD i []).length->dRow q i o (rows.getD i []) k=none\/∃s,dRow q i o (rows.getD i []) k=some s/\(s.n=0\/s=⟨p,c,1⟩/\(p<i\/p=i/\c<k))
 | 0,_=>by
   rcases ho with ho|⟨s,e,ho⟩
   . exact .inl ho
   . refine .inr ⟨s,e,?_⟩
     rcases ho with ho|⟨ho,hp⟩
     . exact .inl ho
     . exact .inr ⟨ho,.inl hp⟩
 | k+1,hk=>by
   rw[dRow]
   rcases D0s h hi ho k (by omega)with ih|⟨s,e,ih⟩
   . rw[ih]; exact .inl rfl
   rw[e]
   have hh:=h i k hi (by omega)
   unfold B07 at hh
   unfold D0m
   dsimp only
   by_cases c1:T03 (Bk.norm ((rows.getD i []).getD k Bk.nil)) q=1
   . rw[if_pos c1]
     have hpc:i=p/\k=c:=Classical.not_not.1 λg=>hh g c1
     refine .inr ⟨_,rfl,.inr ⟨?_,.inr ⟨hpc.1.symm,by omega⟩⟩⟩
     have hn:s.n=0:=by
      rcases ih with ih|⟨_,ih⟩
      . exact ih
      . omega
     rw[hn,hpc.1,hpc.2]; rfl
   . rw[if_neg c1]
     split
     . refine .inr ⟨s,rfl,?_⟩
       rcases ih with ih|⟨e,ih⟩
       . exact .inl ih
       . exact .inr ⟨e,by omega⟩
     . exact .inl rfl
theorem I0n(h:∀i j,i<rows.length->j<(rows.getD i []).length->¬(i=p/\j=c)->¬T03 (B07 rows i j) q=1)(hc:∀i,i<rows.length->p=i->c<(rows.getD i []).length) :
 ∀t,t<=rows.length->c09 q rows t=none\/∃s,c09 q rows t=some s/\(s.n=0\/s=⟨p,c,1⟩/\p<t)
 | 0,_ => .inr ⟨_,rfl,.inl rfl⟩
 | t+1,ht=>by
   rw[c09]
   rcases D0s h (i:=t) (by omega) (I0n h hc t (by omega)) _ (Nat.le_refl _)with e|⟨s,e,g⟩
   . exact .inl e
   . refine .inr ⟨s,e,?_⟩
     rcases g with g|⟨g,g2⟩
     . exact .inl g
     . exact .inr ⟨g,by omega⟩
theorem U0u(h:∀i j,i<rows.length->j<(rows.getD i []).length->¬(i=p/\j=c)->¬T03 (B07 rows i j) q=1/\T03 q (B07 rows i j)=1)(h1:T03 (B07 rows p c) q=1){i:Nat}(hi:i<rows.length){o:Option Ds}(ho:o=some (if p<i then⟨p,c,1⟩else⟨0,0,0⟩)) :
 ∀k,k<=(rows.getD i []).length->dRow q i o (rows.getD i []) k=some (if p<i\/p=i/\c<k then⟨p,c,1⟩else⟨0,0,0⟩)
 | 0,_=>by
   rw[dRow,ho]
   by_cases g:p<i
   . rw[if_pos g,if_pos (.inl g)]
   . rw[if_neg g,if_neg (by omega)]
 | k+1,hk=>by
   rw[dRow,U0u h h1 hi ho k (by omega)]
   unfold D0m
   dsimp only
   by_cases e:i=p/\k=c
   . have h1':=h1
     unfold B07 at h1'
     rw[<-e.1,<-e.2]at h1'
     rw[if_pos h1',if_neg (by omega),if_pos (by omega)]
     rw[e.1,e.2]; rfl
   . have ⟨n1,n2⟩:=h i k hi (by omega) e
     unfold B07 at n1 n2
     rw[if_neg n1,if_pos n2]
     congr 1
     by_cases g:p<i\/p=i/\c<k
     . rw[if_pos g,if_pos (by omega)]
     . rw[if_neg g,if_neg (by omega)]
theorem E0s(h:∀i j,i<rows.length->j<(rows.getD i []).length->¬(i=p/\j=c)->¬T03 (B07 rows i j) q=1/\T03 q (B07 rows i j)=1)(h1:T03 (B07 rows p c) q=1)(hc:∀i,i<rows.length->p=i->c<(rows.getD i []).length) :
 ∀t,t<=rows.length->c09 q rows t=some (if p<t then⟨p,c,1⟩else⟨0,0,0⟩)
 | 0,_=>by rw[c09,if_neg (by omega)]
 | t+1,ht=>by
   rw[c09,U0u h h1 (by omega) (E0s h h1 hc t (by omega)) _ (Nat.le_refl _)]
   have:=hc t (by omega)
   by_cases g:p<t\/p=t/\c<(rows.getD t []).length
   . rw[if_pos g,if_pos (by omega)]
   . rw[if_neg g,if_neg (by omega)]
end
def n256:Cq:=⟨((256:Int):Rat),0⟩
theorem i0w:n256.sz<=64:=by
 refine(Rep.ofInt 256).sz (k:=64) ?_ (by decide) (by decide)
 exact W03 (by omega)
theorem k0u:endE (t06 n256).lo=⟨0,64⟩:=by decide +kernel
def ptB(x:Nat):Bool :=
 if x<8 then decide (T03 (Bk.norm (ofB ⟨((x:Int):Rat),0⟩)) (t06 n256)=1)else
  decide (x<9)||(decide (T03 (t06 n256) (Bk.norm (ofB ⟨((x:Int):Rat),0⟩))=1) && !decide (T03 (Bk.norm (ofB ⟨((x:Int):Rat),0⟩)) (t06 n256)=1))
theorem W0u:(List.range 265).all ptB=true:=by decide +kernel
def F0s(w:Int):Bk:=mkB (Op.negFloat .f64 (J0c w)) (Op.negFloat .f64 (J0c w)) (J0c w) (J0c w)
def u0x(w:Nat):Bool:=decide (Op.negFloat .f64 (J0c (w:Int))<2^64)&&(F0s (w:Int)).has Cq.zero
theorem l0u:(List.range 256).all u0x=true:=by decide +kernel
theorem j0w{w:Int}(h0:0<=w)(h1:w<=255):Op.negFloat .f64 (J0c w)<2^64/\(F0s w).has Cq.zero=true:=by
 have:=List.all_eq_true.1 l0u w.toNat (by simp; omega)
 unfold u0x at this
 rw[Int.toNat_of_nonneg h0]at this
 simp only[Bool.and_eq_true]at this
 exact⟨of_decide_eq_true this.1,this.2⟩
theorem k0w{x:Int}(h0:0<=x)(h1:x<8):T03 (Bk.norm (ofB ⟨(x:Rat),0⟩)) (t06 n256)=1:=by
 have:=List.all_eq_true.1 W0u x.toNat (by simp; omega)
 unfold ptB at this
 rw[Int.toNat_of_nonneg h0,if_pos (by omega)]at this
 exact of_decide_eq_true this
theorem G0s{x:Int}(h0:9<=x)(h1:x<=264):¬T03 (Bk.norm (ofB ⟨(x:Rat),0⟩)) (t06 n256)=1/\T03 (t06 n256) (Bk.norm (ofB ⟨(x:Rat),0⟩))=1:=by
 have:=List.all_eq_true.1 W0u x.toNat (by simp; omega)
 unfold ptB at this
 rw[Int.toNat_of_nonneg (by omega),if_neg (by omega),decide_eq_false (by omega:¬x.toNat<9)]at this
 simp only[Bool.false_or,Bool.and_eq_true,Bool.not_eq_true']at this
 exact⟨of_decide_eq_false this.2,of_decide_eq_true this.1⟩
theorem H0p{x:Int}{W:Bk}(h0:9<=x)(hW:W.has Cq.zero=true):¬T03 (Bk.norm ((ofB ⟨(x:Rat),0⟩).add W)) (t06 n256)=1:=by
 intro h
 have h:=B0s.1 h
 have hb:=M0t (J0v (d0w ⟨(x:Rat),0⟩) hW)
 have hi:=(q0n.1 hb).2
 have hno:(Bk.norm ((ofB ⟨(x:Rat),0⟩).add W)).ok:=m08 _
 have lt:Eb.LT (endE (Bk.norm ((ofB ⟨(x:Rat),0⟩).add W)).hi) (endE (t06 n256).lo):=D0v hno.hi (T0u _ _:(t06 n256).ok).lo h
 rw[k0u]at lt
 have g:Eb.LT ⟨0,((⟨(x:Rat),0⟩:Cq)+Cq.zero).norm⟩ ⟨0,64⟩:=Classical.not_not.1 λk=>by
  have a:Eb.Le ⟨0,64⟩ ⟨0,((⟨(x:Rat),0⟩:Cq)+Cq.zero).norm⟩:=k
  exact(a.trans hi) lt
 have e:((⟨(x:Rat),0⟩:Cq)+Cq.zero).norm=(x:Rat)*(x:Rat):=by
  rw[Cq.norm,c04,d04]
  show((x:Rat)+0)*((x:Rat)+0)+((0:Rat)+0)*((0:Rat)+0)=_
  grind
 rw[e]at g
 rcases g with g|⟨_,_,g⟩
 . exact absurd g (Int.lt_irrefl 0)
 . have g:(x:Rat)*(x:Rat)<64:=g
   have g1:((x*x:Int):Rat)<((64:Int):Rat):=by rw[Rat.intCast_mul]; exact g
   have g2:x*x<64:=Rat.intCast_lt_intCast.1 g1
   have:9*9<=x*x:=Int.mul_le_mul h0 h0 (by omega) (by omega)
   omega
section
variable {α:Type} {sz:Nat} {P:View->List Value->α->Prop}
theorem i03.left{m V:View}{o o':List Value}{n n':Nat}{rows:Nat->List α}(h:i03 sz P m V (o++o') (n+n') rows)(hn:o.length=n):i03 sz P m V o n rows:=by
 obtain⟨S,bs,h1,h2⟩:=h
 refine⟨S,bs,λi hi => ?_,λi j hi hj=>h2 i j (by omega) (by omega)⟩
 obtain⟨g1,g2⟩:=h1 i (by omega)
 rw[List.getElem?_append_left (by omega)]at g1
 exact⟨g1,g2⟩
theorem i03.right{m V:View}{o o':List Value}{n n':Nat}{rows:Nat->List α}(h:i03 sz P m V (o++o') (n+n') rows)(hn:o.length=n):i03 sz P m V o' n' (λi=>rows (n+i)):=by
 obtain⟨S,bs,h1,h2⟩:=h
 refine⟨λi=>S (n+i),λi=>bs (n+i),λi hi => ?_,λi j hi hj ri rj e => ?_⟩
 . obtain⟨g1,g2⟩:=h1 (n+i) (by omega)
   rw[List.getElem?_append_right (by omega),show n+i-o.length=i by omega]at g1
   exact⟨g1,g2⟩
 . have:=h2 (n+i) (n+j) (by omega) (by omega) ri rj e
   omega
end
def O09(m k j i:Nat):Nat:=if i<k then m else if i=k then j else 0
def N08(n m k j:Nat)(f g:Nat->Nat->Bk)(i:Nat):List Bk:=if i<n then rowL (O09 m k j i) (f i)else rowL (O09 m k j (i-n)) (g (i-n))
theorem S0k(m k j:Nat)(f:Nat->Bk):rowL (O09 m k j k) f++[f j]=rowL (O09 m k (j+1) k) f:=by
 unfold O09
 rw[if_neg (Nat.lt_irrefl _),if_pos rfl,if_neg (Nat.lt_irrefl _),if_pos rfl]
 exact w09 _ _
theorem T0k(m k j i:Nat)(h:i≠k):O09 m k j i=O09 m k (j+1) i:=by unfold O09; rw[if_neg h,if_neg h]
theorem I0p{n m k j:Nat}(f g:Nat->Nat->Bk)(hk:k<n)(r:Nat) :
 (if r=n+k then(if n+k=k then N08 n m k j f g k++[f k j]else N08 n m k j f g (n+k))++[g k j]else if r=k then N08 n m k j f g k++[f k j]else N08 n m k j f g r)=N08 n m k (j+1) f g r:=by
 by_cases e:r=n+k
 . subst e
   rw[if_pos rfl,if_neg (by omega)]
   unfold N08
   rw[if_neg (by omega),if_neg (by omega),Nat.add_sub_cancel_left]
   exact S0k _ _ _ _
 . rw[if_neg e]
   by_cases e2:r=k
   . subst e2
     rw[if_pos rfl]
     unfold N08
     rw[if_pos hk,if_pos hk]
     exact S0k _ _ _ _
   . rw[if_neg e2]
     unfold N08
     rw[T0k m k j r e2]
     by_cases c:r<n
     . rw[if_pos c,if_pos c]
     . rw[if_neg c,if_neg c,T0k m k j (r-n) (by omega)]
theorem J0p{n m k:Nat}(f g:Nat->Nat->Bk)(r:Nat):N08 n m k m f g r=N08 n m (k+1) 0 f g r:=by
 have e:∀i,O09 m k m i=O09 m (k+1) 0 i:=λi=>by
  unfold O09
  by_cases c:i<k
  . rw[if_pos c,if_pos (by omega)]
  . rw[if_neg c]
    by_cases d:i=k
    . rw[if_pos d,if_pos (by omega)]
    . rw[if_neg d,if_neg (by omega)]
      split<;>rfl
 unfold N08
 rw[e,e]
theorem K0p{n m:Nat}(f g:Nat->Nat->Bk)(r:Nat):N08 n m 0 0 f g r=[]:=by
 have e:∀i,O09 m 0 0 i=0:=λi=>by unfold O09; rw[if_neg (by omega)]; split<;>rfl
 unfold N08
 rw[e,e]
 split<;>rfl
theorem Z0b{n m:Nat}(f:Nat->Nat->Bk)(h:1<=n):L07 (matL n m f)=m:=by
 obtain⟨row,e,hl⟩:=k0i (rows:=matL n m f) (by rw[Z00]; omega)
 rw[Q04 (by omega)]at e
 obtain rfl:=Option.some.inj e
 rw[<-hl,L00]
theorem l0f{n m:Nat}(f:Nat->Nat->Bk):Rect (matL n m f):=by
 intro row hr
 obtain⟨i,hi,e⟩:=List.getElem_of_mem hr
 have hn:i<n:=by rw[Z00]at hi; exact hi
 have:=Q04 hn f (w:=m)
 rw[List.getElem?_eq_getElem hi,e]at this
 rw[Option.some.inj this,L00,Z0b f (by omega)]
theorem H0s{n m:Nat}(f:Nat->Nat->Bk)(h1:1<=n)(h2:n<=64)(h3:1<=m)(h4:m<=64):u0p (matL n m f)=0/\w0p (matL n m f)=matL n m f:=by
 have c:=Z0b (m:=m) f h1
 have g:d07 (matL n m f)=true:=by
  unfold d07
  rw[Z00,decide_eq_true h1,decide_eq_true h2,Bool.true_and,Bool.true_and,List.all_eq_true]
  intro row hr
  have e:=l0f f row hr
  rw[c]at e
  unfold J0b
  rw[c,e,decide_eq_true h3,decide_eq_true h4,decide_eq_true rfl]; rfl
 unfold u0p w0p
 rw[if_pos g,if_pos g]; exact⟨rfl,rfl⟩
theorem E0m{n m i j:Nat}(f:Nat->Nat->Bk)(hi:i<n)(hj:j<m):((matL n m f).getD i []).getD j Bk.nil=f i j:=by
 have e1:(matL n m f).getD i []=rowL m (f i):=by rw[List.getD_eq_getElem?_getD,Q04 hi]; rfl
 rw[e1,List.getD_eq_getElem?_getD,O04 hj]; rfl
theorem P0d{n m i:Nat}(f:Nat->Nat->Bk)(hi:i<n):((matL n m f).getD i []).length=m:=by
 rw[List.getD_eq_getElem?_getD,Q04 hi]
 exact L00 _ _
def powX(ws:List Int)(m i j:Nat):Int:=if ws.length=0 then 9 else 9+ws.getD ((i*m+j)%ws.length) 0
def datX(ws:List Int)(m p q:Nat)(wk:Int)(i j:Nat):Int:=if i=p/\j=q then wk else powX ws m i j
theorem B0i{ws:List Int}(hi:∀w∈ws,0<=w/\w<=255)(m i j:Nat):9<=powX ws m i j/\powX ws m i j<=264:=by
 unfold powX
 split
 . omega
 . rename_i h
   have hl:(i*m+j)%ws.length<ws.length:=Nat.mod_lt _ (by omega)
   have:=hi _ (List.mem_of_getElem? (I0b hl 0))
   omega
def ptF(x:Nat->Nat->Int)(i j:Nat):Bk:=ofB (intQ (x i j))
def outF(W:Bk)(x:Nat->Nat->Int)(i j:Nat):Bk:=(ofB (intQ (x i j))).add W
theorem l0w{n m p q:Nat}{ws:List Int}{wk:Int}(hi:∀w∈ws,0<=w/\w<=255)(hp:p<n)(hq:q<m)(w0:0<=wk)(w8:wk<8):Y0b (matL n m (ptF (datX ws m p q wk))) n256=⟨p,q,0⟩:=by
 have hl:=Z00 n m (ptF (datX ws m p q wk))
 have g:=E0s (q:=t06 n256) (rows:=matL n m (ptF (datX ws m p q wk))) (p:=p) (c:=q) (λi j hi1 hj hn=>by
  rw[hl]at hi1
  rw[P0d _ hi1]at hj
  unfold B07
  rw[E0m _ hi1 hj]
  unfold ptF datX
  rw[if_neg hn]
  have:=B0i hi m i j
  exact G0s this.1 this.2) (by
  unfold B07
  rw[E0m _ hp hq]
  unfold ptF datX
  rw[if_pos ⟨rfl,rfl⟩]
  exact k0w w0 w8) (λi hi1 _=>by rw[hl]at hi1; rw[P0d _ hi1]; exact hq) _ (Nat.le_refl _)
 rw[hl,if_pos hp]at g
 unfold Y0b
 rw[hl,if_neg (by omega),if_pos (by decide),g]
 rfl
theorem m0u{n m p q:Nat}{ws:List Int}{wk:Int}{W:Bk}(hi:∀w∈ws,0<=w/\w<=255)(hp:p<n)(hq:q<m)(hW:W.has Cq.zero=true) :
 Y0b (matL n m (outF W (datX ws m p q wk))) n256=⟨p,q,0⟩\/Y0b (matL n m (outF W (datX ws m p q wk))) n256=⟨0,0,5⟩:=by
 have hl:=Z00 n m (outF W (datX ws m p q wk))
 have g:=I0n (q:=t06 n256) (rows:=matL n m (outF W (datX ws m p q wk))) (p:=p) (c:=q) (λi j hi1 hj hn=>by
  rw[hl]at hi1
  rw[P0d _ hi1]at hj
  unfold B07
  rw[E0m _ hi1 hj]
  unfold outF datX
  rw[if_neg hn]
  exact H0p (B0i hi m i j).1 hW) (λi hi1 _=>by rw[hl]at hi1; rw[P0d _ hi1]; exact hq) _ (Nat.le_refl _)
 rw[hl]at g
 unfold Y0b
 rw[hl,if_neg (by omega),if_pos (by decide)]
 rcases g with g|⟨s,g,e|⟨e,_⟩⟩
 . rw[g]; exact .inr rfl
 . rw[g]
   dsimp only
   rw[if_neg (by rw[e]; decide)]; exact .inr rfl
 . rw[g,e]; exact .inl rfl
def byC(_:View)(x:List Value)(k:Int):Prop:=x=[.int .u8 k]
theorem byC.le{V V':View}(_:V.le V')(x:List Value)(k:Int)(h:byC V x k):byC V' x k:=h
set_option maxHeartbeats 4000000 in
theorem a0c{V:View}{p0 p1 p2 p3 p5 p6:Int}{p4:Sl}{ws:List Int}(a0:0<=p0/\p0<=255)(a1:0<=p1/\p1<=255)(a2:0<=p2/\p2<=255)(a3:0<=p3/\p3<=255)(a5:0<=p5/\p5<=255)(a6:0<=p6/\p6<=255)
 (h:B00 1 byC V p4 ws) (hi:∀w∈ws,0<=w/\w<=255) (hwl:ws.length<=maxLen) :
 a00 Tryz.prog n06 #[.int .u8 p0,.int .u8 p1,.int .u8 p2,.int .u8 p3,p4.v,.int .u8 p5,.int .u8 p6] V λv _=>v = .bool true:=by
 have hl:p4.len=ws.length:=h.len
 unfold maxLen at hwl
 obtain⟨n,hn,n1,n9⟩:∃n:Nat,IntKind.i64.wrap (1+Int.tmod (IntKind.i64.wrap p0) 9)=n/\1<=n/\n<=9:=by
  rw[i64w (n:=p0) (by omega) (by omega),Int.tmod_eq_emod_of_nonneg a0.1,i64w (by omega) (by omega)]
  exact⟨(1+p0%9).toNat,by omega,by omega,by omega⟩
 obtain⟨m,hm,m1,m9⟩:∃n:Nat,IntKind.i64.wrap (1+Int.tmod (IntKind.i64.wrap p1) 9)=n/\1<=n/\n<=9:=by
  rw[i64w (n:=p1) (by omega) (by omega),Int.tmod_eq_emod_of_nonneg a1.1,i64w (by omega) (by omega)]
  exact⟨(1+p1%9).toNat,by omega,by omega,by omega⟩
 have modn:∀ {x:Int} {n:Nat},0<=x/\x<=255->1<=n->∃p:Nat,Int.tmod (IntKind.i64.wrap x) (n:Int)=p/\p<n:=λ{x n} hx h1=>by
  rw[i64w (by omega) (by omega),Int.tmod_eq_emod_of_nonneg hx.1]
  have g1:=Int.emod_nonneg x (by omega:(n:Int)≠0)
  have g2:=Int.emod_lt_of_pos x (by omega:(0:Int)<(n:Int))
  exact⟨(x%(n:Int)).toNat,by omega,by omega⟩
 obtain⟨p,hp,hpn⟩:=modn a2 n1
 obtain⟨q,hq,hqm⟩:=modn a3 m1
 obtain⟨wk,hwk,w8⟩:=modn (n:=8) a5 (by decide)
 have hwk:Int.tmod (IntKind.i64.wrap p5) 8=(wk:Int):=hwk
 obtain⟨sd1,sd2⟩:=g0w a6.1 a6.2
 obtain⟨wd1,wd2⟩:=j0w a6.1 a6.2
 have hWok:(F0s p6).ok:=U0w _ _ _ _
 let x:Nat->Nat->Int:=datX ws m p q wk
 let f:Nat->Nat->Bk:=ptF x
 let g:Nat->Nat->Bk:=outF (F0s p6) x
 have xin:∀i j,0<=x i j/\x i j<=264:=λi j=>by
  have:=B0i hi m i j
  show 0<=datX ws m p q wk i j/\datX ws m p q wk i j<=264
  unfold datX
  split<;>omega
 refine a06 p0 p1 p2 p3 p4 p5 p6 V _
  (λ_ y V'=>∃k:Nat,y.t70=k/\k<=n/\y.o68.length=n/\y.o51.length=n/\i03 4 boxC y.o0 V' (y.o68++y.o51) (n+n) (N08 n m k 0 f g)) (λ_ y _=>n-y.t70.toNat)
  (λc y V'=>∃k j:Nat,c.t70=k/\k<n/\y.t74=j/\j<=m/\y.o68.length=n/\y.o51.length=n/\i03 4 boxC y.o0 V' (y.o68++y.o51) (n+n) (N08 n m k j f g)) (λ_ y _=>m-y.t74.toNat) ?_
 rw[hn,hm,hp,hq,hwk,hl,Int.toNat_natCast]
 refine⟨by omega,by omega,⟨by omega,by omega,by omega,by omega⟩,_,sd1,(o0s (c:=⟨Op.negFloat .f64 (J0c p6),Op.negFloat .f64 (J0c p6)⟩) (d:=⟨J0c p6,J0c p6⟩) wd1 wd1 sd2 sd2).mono λv V1 l1 hv=>⟨_,_,hv,⟨by omega,by omega,by omega,by omega⟩,⟨0,rfl,by omega,by simp,by simp,?_⟩,?_⟩⟩
 . rw[o0v,List.replicate_append_replicate]
   exact(M0c V1 (n+n)).congr λi _=>by rw[K0p]
 rintro⟨t70,o0,o51,o68⟩ V2 l2 ⟨k,ek,hk,h68,h51,hR⟩
 dsimp only at ek h68 h51 hR ⊢
 subst ek
 refine⟨λhlt => ?_,λhge => ?_⟩
 . have hkn:k<n:=by have:=of_decide_eq_true hlt; omega
   refine⟨⟨k,0,rfl,hkn,rfl,by omega,h68,h51,hR⟩,?_⟩
   rintro⟨t74,o0',o51',o68'⟩ V3 l3 ⟨k',j,ek,_,ej,hj,h68',h51',hR'⟩
   dsimp only at ek ej h68' h51' hR' ⊢
   obtain rfl:k'=k:=by omega
   subst ej
   refine⟨λhlt2 => ?_,λhge2 => ?_⟩
   . have hjm:j<m:=by have:=of_decide_eq_true hlt2; omega
     have L03:View.le V V3:=View.le_trans l1 (View.le_trans l2 l3)
     have e1:(0+Int.toNat (k':Int)*1)=k':=by omega
     obtain⟨s3,e3,r1,r2,r3',⟨o3,r4',r5',r6'⟩,r7⟩:=hR'.row (i:=k') (by omega)
     rw[List.getElem?_append_left (by omega)]at e3
     have rl1:s3.len=j:=by
      rw[r1]; unfold N08 O09
      rw[if_pos hkn,if_neg (Nat.lt_irrefl _),if_pos rfl,L00]
     have datE:∀ {z:Int},z=datX ws m p q wk k' j->x k' j=z:=λh=>h.symm
     have pmul:k'*m<=9*9:=Nat.mul_le_mul (by omega) m9
     have cast:((k':Int)*(m:Int))=((k'*m:Nat):Int):=by rw[Int.natCast_mul]
     refine(S02 (by omega) (by omega)).mono λv Vx lx ⟨rx,hv,hx⟩=>⟨rx,hv,λhpos => ?ha,λhpos => ?hb⟩
     case' ha =>
      have hw0:0<ws.length:=by have:=of_decide_eq_true hpos; omega
      have idx:Int.tmod (IntKind.i64.wrap (IntKind.i64.wrap ((k':Int)*(m:Int))+(j:Int))) ((ws.length:Nat):Int)=(((k'*m+j)%ws.length:Nat):Int):=by
       rw[cast,i64w (n:=((k'*m:Nat):Int)) (by omega) (by omega),i64w (by omega) (by omega),Int.tmod_eq_emod_of_nonneg (by omega),Int.natCast_emod,Int.natCast_add]
      have il:(k'*m+j)%ws.length<ws.length:=Nat.mod_lt _ hw0
      obtain⟨d1,y,hy,_,hh,hs⟩:=B00.get (B00.le (P:=byC) (byC.le (View.le_trans L03 lx)) (View.le_trans L03 lx) h) (t:=(((k'*m+j)%ws.length:Nat):Int)) (by omega) (z:=ws.getD ((k'*m+j)%ws.length) 0) (by rw[Int.toNat_natCast]; exact I0b il 0)
      obtain rfl:y=_:=hy
      have wi:=hi _ (List.mem_of_getElem? (I0b il 0))
      rw[hl]at d1
      rw[idx]
      have hpw:powX ws m k' j=9+ws.getD ((k'*m+j)%ws.length) 0:=by unfold powX; rw[if_neg (by omega)]
      generalize ws.getD ((k'*m+j)%ws.length) 0=u at *
      refine⟨by omega,d1,u,.inr (c0n hh),?_⟩
      rw[i64w (n:=u) (by omega) (by omega),i64w (n:=9+u) (by omega) (by omega),<-hpw]
      have hpw9:=B0i hi m k' j
      have LX0:=View.le_trans l3 lx
      refine(S02 (by omega) (by omega)).mono λv Vy ly ⟨rx,hv,hx⟩=>⟨rx,hv,λca=>⟨λcb => ?ha1,λcb => ?ha2⟩,λca => ?ha3⟩
      case' ha1 =>
       have dat:x k' j=wk:=by
        show datX ws m p q wk k' j=_
        unfold datX
        rw [if_pos ⟨by have : (k' : Int) = p := by simpa using ca
                       omega, by have : (j : Int) = q := by simpa using cb
                                 omega⟩]
       refine(S02 (by omega) (by omega)).mono λv Vz lz ⟨rx,hv,hx⟩=>⟨rx,hv,?_⟩
       have LX:View.le V3 Vz:=View.le_trans lx (View.le_trans ly lz)
       rw[<-dat]at hx
      case' ha2 =>
       have dat:x k' j=powX ws m k' j:=by
        show datX ws m p q wk k' j=_
        unfold datX
        rw[if_neg λc=>by rw[c.2]at cb; simp at cb]
       have LX:View.le V3 Vy:=View.le_trans lx ly
       rw[<-dat]at hx
      case' ha3 =>
       have dat:x k' j=powX ws m k' j:=by
        show datX ws m p q wk k' j=_
        unfold datX
        rw[if_neg λc=>by rw[c.1]at ca; simp at ca]
       have LX:View.le V3 Vy:=View.le_trans lx ly
       rw[<-dat]at hx
     case' hb =>
      have hw0:ws.length=0:=by have:=of_decide_eq_false hpos; omega
      have hpw:powX ws m k' j=9:=by unfold powX; rw[if_pos hw0]
      refine⟨λca=>⟨λcb => ?hb1,λcb => ?hb2⟩,λca => ?hb3⟩
      case' hb1 =>
       have dat:x k' j=wk:=by
        show datX ws m p q wk k' j=_
        unfold datX
        rw [if_pos ⟨by have : (k' : Int) = p := by simpa using ca
                       omega, by have : (j : Int) = q := by simpa using cb
                                 omega⟩]
       refine(S02 (by omega) (by omega)).mono λv Vz lz ⟨rx,hv,hx⟩=>⟨rx,hv,?_⟩
       have LX:View.le V3 Vz:=View.le_trans lx lz
       rw[<-dat]at hx
      case' hb2 =>
       have dat:x k' j=9:=by
        show datX ws m p q wk k' j=_
        unfold datX
        rw[if_neg λc=>by rw[c.2]at cb; simp at cb]
        exact hpw
       have LX:View.le V3 Vx:=lx
       rw[<-dat]at hx
      case' hb3 =>
       have dat:x k' j=9:=by
        show datX ws m p q wk k' j=_
        unfold datX
        rw[if_neg λc=>by rw[c.1]at ca; simp at ca]
        exact hpw
       have LX:View.le V3 Vx:=lx
       rw[<-dat]at hx
     all_goals
      have zs:=M07 (n:=x k' j) (by have:=xin k' j; omega)
      refine⟨⟨by omega,by omega⟩,s3,by rw[e1]; exact e3,(p0s (z:=intQ (x k' j)) _ hx (by omega)).mono λv V7 l7 hv=>⟨_,hv,λb1 V8 l8 _ hb1 => ?_⟩⟩
      have L8:=View.le_trans LX (View.le_trans l7 l8)
      have hnew:V8.has (some (Addr.mk b1 0 none)) (ofB (intQ (x k' j))).v.val.cells.toList:=x04 (cs:=(ofB (intQ (x k' j))).v.val.cells.toList) (j:=0) hb1 (λi v hv=>by rw[Nat.zero_add]; exact hv) rfl
      have hrc:boxC V8 (ofB (intQ (x k' j))).v.val.cells.toList (f k' j):=⟨rfl,S0u _⟩
      refine⟨o3,_,⟨r2,r3'⟩,e09 L8 r4',r5',.inr hnew,rfl,C0s _,by unfold maxLen; omega,by omega,λ_ h2=>r7 1 (by omega) h2,λa1 c1 m1 ha=>⟨⟨by omega,by omega⟩,by rw[h68']; omega,⟨by omega,by omega⟩,?_⟩⟩
      have hR1:=(hR'.le boxC.le L8).app (i:=k') (by omega) (by rw[List.getElem?_append_left (by omega)]; exact e3) (z:=f k' j) rfl hrc (o':=o3) (r6'.imp (boxC.le L8)) ha
      rw[List.set_append_left _ _ (by omega)]at hR1
      obtain⟨s4,e4,q1,q2,q3,⟨o4,q4,q5,q6⟩,q7⟩:=hR1.row (i:=n+k') (by omega)
      rw[List.getElem?_append_right (by simp; omega)]at e4
      have el:n+k'-(o68'.set k' (Value.slice a1 (s3.len+1) c1)).length=k':=by simp; omega
      rw[el]at e4
      rw[if_neg (by omega)]at q1 q6
      have rl2:s4.len=j:=by
       rw[q1]; unfold N08 O09
       rw[if_neg (by omega),Nat.add_sub_cancel_left,if_neg (Nat.lt_irrefl _),if_pos rfl,L00]
      refine⟨s4,by rw[e1]; exact e4,(p0s (z:=intQ (x k' j)) _ (N00.le (View.le_trans l7 l8) hx) (by omega)).mono λv V9 l9 hv=>⟨_,hv,(J0k (S0u _) hWok).mono λv V10 l10 hv=>⟨_,hv,λb3 V11 l11 _ hb3 => ?_⟩⟩⟩
      have L11:=View.le_trans l9 (View.le_trans l10 l11)
      have hnew2:V11.has (some (Addr.mk b3 0 none)) (g k' j).v.val.cells.toList:=x04 (cs:=(g k' j).v.val.cells.toList) (j:=0) hb3 (λi v hv=>by rw[Nat.zero_add]; exact hv) rfl
      have hrc2:boxC V11 (g k' j).v.val.cells.toList (g k' j):=⟨rfl,⟨m08 _,m08 _⟩⟩
      refine⟨o4,_,⟨q2,q3⟩,e09 L11 q4,q5,.inr hnew2,rfl,C0s _,by unfold maxLen; omega,by omega,λ_ h2=>q7 1 (by omega) h2,λa2 c2 m2 ha2=>⟨⟨by omega,by omega⟩,by rw[h51']; omega,?_⟩⟩
      have hR2:=(hR1.le boxC.le L11).app (i:=n+k') (by omega) (by rw[List.getElem?_append_right (by simp; omega),el]; exact e4) (z:=g k' j) rfl hrc2 (o':=o4) (by rw[if_neg (by omega)]; exact q6.imp (boxC.le L11)) ha2
      rw[List.set_append_right _ _ (by simp; omega),el]at hR2
      rw[i64w (by omega) (by omega),e1]
      refine⟨⟨k',j+1,rfl,hkn,by omega,by omega,by simp[h68'],by simp[h51'],hR2.congr λr _=>I0p f g hkn r⟩,by omega⟩
   . have e:j=m:=by have:=of_decide_eq_false hge2; omega
     subst e
     rw[i64w (by omega) (by omega)]
     exact⟨⟨k'+1,by omega,by omega,h68',h51',hR'.congr λr _=>J0p f g r⟩,by omega⟩
 . have e:k=n:=by have:=of_decide_eq_false hge; omega
   subst e
   refine⟨by decide,λV5 l5 hm5 b26 V6 l6 hb26 => ?_⟩
   have hA:i03 4 boxC o0 V2 o68 k (λi=>rowL m (f i)):=(i03.left hR h68).congr λi hi=>by unfold N08 O09; rw[if_pos hi,if_pos hi]
   have hB:i03 4 boxC o0 V2 o51 k (λi=>rowL m (g i)):=(i03.right hR h68).congr λi hi=>by unfold N08 O09; rw[if_neg (by omega),Nat.add_sub_cancel_left,if_pos hi]
   obtain⟨f1,f2⟩:=H0s (n:=k) (m:=m) f n1 (by omega) m1 (by omega)
   obtain⟨g1,g2⟩:=H0s (n:=k) (m:=m) g n1 (by omega) m1 (by omega)
   refine(y06 (hA.knownL boxC.le h68 (View.le_trans l5 l6) (λb cs h=>l6 _ _ (hm5 b cs h)) hb26)).mono λv V7 l7 ⟨r25,hv,h25⟩=>⟨_,_,hv,λb27 V8 l8 hb27 => ?_⟩
   refine(y06 (hB.knownL boxC.le h51 (View.le_trans l5 (View.le_trans l6 (View.le_trans l7 l8))) (λb cs h=>l8 _ _ (l7 _ _ (l6 _ _ (hm5 b cs h)))) hb27)).mono λv V9 l9 ⟨r27,hv,h27⟩=>⟨_,_,hv,λc=>absurd c (by rw[f1]; decide),λ_=>⟨λc=>absurd c (by rw[g1]; decide),λ_ => ?_⟩⟩
   rw[f2]at h25; rw[g2]at h27
   have z256:(⟨((256:Int):Rat),0⟩:Cq).sz<=64:=i0w
   refine(S02 (n:=256) (by omega) (by omega)).mono λv V10 l10 ⟨r29,hv,h29⟩=>⟨r29,hv,?_⟩
   refine(Q0k (A04.le boxC.le (View.le_trans l8 (View.le_trans l9 l10)) h25) (l0f f) (by rw[Z00]; omega) (by rw[Z0b f n1]; omega) h29 z256).mono λv V11 l11 hv=>⟨_,_,_,hv,?_⟩
   have dp:Y0b (matL k m f) ⟨((256:Int):Rat),0⟩=⟨p,q,0⟩:=l0w hi hpn hqm (by omega) (by omega)
   rw[dp]
   refine⟨λc=>absurd c (by simp),λ_=>⟨λc=>absurd c (by simp),λ_=>⟨λc=>absurd c (by simp),λ_ => ?_⟩⟩⟩
   refine(S02 (n:=256) (by omega) (by omega)).mono λv V12 l12 ⟨r33,hv,h33⟩=>⟨r33,hv,?_⟩
   refine(Q0k (A04.le boxC.le (View.le_trans l10 (View.le_trans l11 l12)) h27) (l0f g) (by rw[Z00]; omega) (by rw[Z0b g n1]; omega) h33 z256).mono λv V13 l13 hv=>⟨_,_,_,hv,?_⟩
   have aw:∀ {V:View},a00 Tryz.prog Q05 #[] V λv V'=>∃r:Bool,v = .bool r/\Value.bool r = .bool true:=λ{V}=>A0i.mono λv V9 _ hv=>⟨_,hv,rfl⟩
   rcases m0u (n:=k) (m:=m) (wk:=wk) (W:=F0s p6) hi hpn hqm wd2 with dq|dq
   . have dq:Y0b (matL k m g) ⟨((256:Int):Rat),0⟩=⟨p,q,0⟩:=dq
     rw[dq]
     exact⟨λc=>absurd c (by simp),λ_=>⟨λ_=>⟨λ_=>⟨λ_=>aw,λc=>absurd c (by simp)⟩,λc=>absurd c (by simp)⟩,λc=>absurd c (by simp)⟩⟩
   . have dq:Y0b (matL k m g) ⟨((256:Int):Rat),0⟩=⟨0,0,5⟩:=dq
     rw[dq]
     exact⟨λ_=>aw,λc=>absurd c (by decide)⟩
end Go.Proofs.YtfdaofhjkdabbaaGreat
namespace Go.Proofs.YtfdaofhjkdabbaaGreat
open Go Go.Vc Go.Proofs Go.ChangeShapes Go.RowKit
section
variable {H:Type} {enc:TypeId×Value->H} {P:Program} {w:World} {base:Nat} {spare:Nat->Bool} {held:Bool} {t:TypeId} {v:Value} {dd:DataW H} {ps:List MemPlace}
theorem F0m{e:TypeId}(ht:P.underlying t=some (.slice e))(hc:P.cellsOf e=1)(hk:t0m P 8 e=some [.int .u8])(hv:∃a l c,v = .slice a l c)(h:DataW.Trod enc P w base spare held t v dd ps) :
 ∃(s:Sl) (ks:List Int),v=s.v/\B00 1 byC (C05 w) s ks/\ks.length<=maxLen/\∀k∈ks,0<=k/\k<=255:=by
 obtain⟨fuel,h⟩:=h
 obtain⟨s,zs,e1,h1,h2,h3⟩:=L0r (α:=Int) ht hc (λk=>0<=k/\k<=255) byC (λ{fuel cs x} g=>by
  have h:=D0c 8 fuel e _ cs x hk g
  cases cs with
  | nil=>exact h.elim
  | cons y cs =>
    obtain⟨⟨a,e1,w1⟩,h⟩:=h
    exact⟨a,bounds_u8 w1,by rw[e1,w0s h]; rfl⟩) h
 exact⟨s,zs,y0k e1 hv,h1,h2,h3⟩
end
