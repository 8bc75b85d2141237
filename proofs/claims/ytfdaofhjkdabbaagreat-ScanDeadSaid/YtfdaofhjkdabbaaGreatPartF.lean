/- Part. -/
import Derived.Test.YtfdaofhjkdabbaaGreatPartE
namespace Go.Proofs.YtfdaofhjkdabbaaGreat
open Go Go.Vc Go.Proofs
open Go.Proofs.Tryz (prog)
structure Ds where
 i:Int
 j:Int
 n:Int
def T0q(q:Sk)(i j:Nat)(b:Bk):Option Ds->Option Ds
 | none=>none
 | some s=>if I08 (Bk.norm b) q=1 then some ⟨i,j,s.n+1⟩else if I08 q (Bk.norm b)=1 then some s else none
def dRow(q:Sk)(i:Nat)(o:Option Ds)(row:List Bk):Nat->Option Ds
 | 0=>o
 | k+1=>T0q q i k (row.getD k Bk.nil) (dRow q i o row k)
def c0d(q:Sk)(rows:List (List Bk)):Nat->Option Ds
 | 0=>some ⟨0,0,0⟩
 | t+1=>dRow q t (c0d q rows t) (rows.getD t []) (rows.getD t []).length
theorem U0q(q:Sk)(i:Nat)(row:List Bk):∀k,dRow q i none row k=none
 | 0=>rfl
 | k+1=>by rw[dRow,U0q q i row k]; rfl
theorem Q0l{q:Sk}{i:Nat}{o:Option Ds}{row:List Bk}{k:Nat}(h:dRow q i o row k=none):∀m,k<=m->dRow q i o row m=none
 | 0,hk=>by rw[show k=0 by omega]at h; exact h
 | m+1,hk=>by
   rcases Nat.lt_or_ge m k with g|g
   . rw[show m+1=k by omega]; exact h
   . rw[dRow,Q0l h m g]; rfl
theorem H0j{q:Sk}{rows:List (List Bk)}{t:Nat}(h:c0d q rows t=none):∀m,t<=m->c0d q rows m=none
 | 0,hk=>by rw[show t=0 by omega]at h; exact h
 | m+1,hk=>by
   rcases Nat.lt_or_ge m t with g|g
   . rw[show m+1=t by omega]; exact h
   . rw[c0d,H0j h m g]; exact U0q _ _ _ _
theorem W0q{q:Sk}{rows:List (List Bk)}{t k:Nat}(ht:t<rows.length)(hk:k<=(rows.getD t []).length)(h:dRow q t (c0d q rows t) (rows.getD t []) k=none):c0d q rows rows.length=none :=
 H0j (t:=t+1) (Q0l h _ hk) _ ht
def four:Cq:=⟨((4:Int):Rat),0⟩
def F07(z:Cq):Sk:=arS (z.div four) (z.div four)
def I0j(rows:List (List Bk))(z:Cq):Ds :=
 if rows.length=0 then⟨0,0,4⟩else if z.im=0/\0<z.re then
  (match c0d (F07 z) rows rows.length with
  | none=>⟨0,0,5⟩
  | some s=>if s.n=1 then⟨s.i,s.j,0⟩else⟨0,0,5⟩)else⟨0,0,1⟩
def Ds.val(s:Ds):Value := .tuple #[.int .i64 s.i,.int .i64 s.j,.int .i64 s.n]
theorem I10{V:View}{g:s05}{rows:List (List Bk)}{i j:Nat}(h:l04 4 boxC V g.rows rows)(hr:Rect rows)(hi:i<rows.length)(hj:j<m09 rows) :
 a00 prog G0d #[g.val,.int .i64 (i:Int),.int .i64 (j:Int)] V λv _=>v=((rows.getD i []).getD j Bk.nil).v.val/\((rows.getD i []).getD j Bk.nil).ok:=by
 refine B0c g i j V _ ((G0j (i:=(i:Int)) (j:=(j:Int)) h hr Bk.nil).mono λv V1 _ ⟨r,e,hv,h1,_⟩=>⟨r,e,hv,?_⟩)
 obtain⟨_,hb⟩:=h1 ⟨⟨by omega,by omega⟩,by omega,by omega⟩
 rw[Int.toNat_natCast,Int.toNat_natCast]at hb
 obtain⟨e1,e2⟩:=hb
 refine⟨?_,e2⟩
 have:r=((rows.getD i []).getD j Bk.nil).v:=by
  obtain⟨⟨a,b⟩,⟨c,d⟩⟩:=r
  generalize ((rows.getD i []).getD j Bk.nil).v=y at *
  obtain⟨⟨a',b'⟩,⟨c',d'⟩⟩:=y
  simp[BoxV.val]at e1
  obtain⟨rfl,rfl,rfl,rfl⟩:=e1
  rfl
 rw[this]
theorem X0q{q:Sk}{i k:Nat}{o:Option Ds}{row:List Bk}:dRow q i o row (k+1)=T0q q i k (row.getD k Bk.nil) (dRow q i o row k):=rfl
theorem c0o:four.sz<=64:=by
 refine(Rep.ofInt 4).sz (k:=64) ?_ (by decide) (by decide)
 exact j02 (by omega)
theorem E12:four≠Cq.zero:=by decide
theorem c0u{z:Cq}(h:z.im=0):z.cmp Cq.zero=cmpR z.re 0:=K0n h rfl
theorem a0t{x:Rat}:cmpR x 0<=0↔¬0<x:=by
 unfold cmpR
 by_cases c:x<0
 . rw[if_pos c]
   exact⟨λ_ g=>by grind,λ_=>by decide⟩
 . rw[if_neg c]
   by_cases d:x=0
   . rw[if_pos d]; exact⟨λ_ g=>by grind,λ_=>by decide⟩
   . rw[if_neg d]; exact⟨λg=>absurd g (by decide),λg=>absurd (show 0<x by grind) g⟩
set_option maxHeartbeats 1000000 in
theorem d0z{V:View}{g:s05}{x:NumV}{rows:List (List Bk)}{z:Cq}(h:l04 4 boxC V g.rows rows)(hr:Rect rows)(hn:rows.length<=64)(hc:m09 rows<=64)(hx:T00 V x z)(hz:z.sz<=64) :
 a00 prog t0r #[g.val,x.val] V λv _=>v=(I0j rows z).val:=by
 have zq:=I0l (z:=z) (w:=four) (S:=64) hz c0o
 have hq:(F07 z).ok:=n11 _ _
 refine N0p g x V _ (λc y _=>c.t7=rows.length/\c.t8=m09 rows/\y.t4=0/\y.t5=0/\z.im=0/\0<z.re/\0<rows.length)
  (λc y _=>∃t:Nat,y.t46=t/\t<=rows.length/\c0d (F07 z) rows t=some ⟨y.t4,y.t5,y.t13⟩/\0<=y.t13/\y.t13<=t*64) (λc y _=>rows.length-y.t46.toNat)
  (λc y _=>∃t k:Nat,c.t46=t/\t<rows.length/\y.t50=k/\k<=m09 rows/\dRow (F07 z) t (c0d (F07 z) rows t) (rows.getD t []) k=some ⟨y.t4,y.t5,y.t13⟩/\0<=y.t13/\y.t13<=t*64+k) (λc y _=>m09 rows-y.t50.toNat) ?_
 refine(e0b h).mono λv V1 l1 hv=>⟨_,_,hv,λc => ?_,λc=>⟨?_,?_⟩⟩
 . have c:rows.length=0:=by simpa using c
   unfold I0j; rw[if_pos c]; rfl
 . have c:rows.length≠0:=by intro e; rw[e]at c; exact absurd c (by decide)
   refine(J02 (hx.le l1)).mono λv V3 l3 hv=>⟨_,hv,λd => ?_,λd => ?_⟩
   . have d:¬z.im=0:=by simpa using d
     unfold I0j; rw[if_neg c,if_neg (λg=>d g.1)]; rfl
   have d:z.im=0:=by simpa using d
   refine(F08 (n:=0) (by decide) (by decide)).mono λv V4 l4 ⟨r4,hv,h4⟩=>⟨r4,hv,?_⟩
   have h4:T00 V4 r4 Cq.zero:=h4
   refine(H08 (hx.le (View.le_trans l1 (View.le_trans l3 l4))) h4 (by omega) (Nat.le_trans x09 (by omega))).mono λv V5 l5 hv=>⟨_,hv,λe => ?_,λe => ?_⟩
   . have e:=of_decide_eq_true e
     rw[c0u d,a0t]at e
     unfold I0j; rw[if_neg c,if_neg (λg=>e g.2)]; rfl
   . have e:=of_decide_eq_false e
     rw[c0u d,a0t,Classical.not_not]at e
     exact⟨rfl,rfl,rfl,rfl,d,e,by omega⟩
 rintro⟨t4,t5⟩ V2 l2 ⟨_,_,e4,e5,him,hre,hpos⟩
 dsimp only at e4 e5
 subst e4; subst e5
 have fin:∀s,c0d (F07 z) rows rows.length=s->I0j rows z=(match s with|none=>⟨0,0,5⟩|some s=>if s.n=1 then⟨s.i,s.j,0⟩else⟨0,0,5⟩):=λs e=>by
  unfold I0j; rw[if_neg (by omega),if_pos ⟨him,hre⟩,e]
 refine(F08 (n:=4) (by decide) (by decide)).mono λv V6 l6 ⟨r6,hv,h6⟩=>⟨r6,hv,?_⟩
 have h6:T00 V6 r6 four:=h6
 have four40:=c0o
 refine(S0c (hx.le (View.le_trans l1 (View.le_trans l2 l6))) h6 (by omega) (by omega)).mono λv V7 l7 ⟨r7,e7,hv,_,h7⟩=>⟨r7,e7,hv,?_⟩
 obtain⟨_,h7⟩:=h7 E12
 refine(N0q h7 h7 (by omega) (by omega)).mono λv V8 l8 hv=>⟨_,_,hv,⟨0,rfl,by omega,rfl,by decide,by decide⟩,?_⟩
 have L8:=View.le_trans l1 (View.le_trans l2 (View.le_trans l6 (View.le_trans l7 l8)))
 rintro⟨y4,y5,y13,y46⟩ V9 l9 ⟨t,et,ht,hD,hn0,hn1⟩
 dsimp only at et hD hn0 hn1 ⊢
 subst et
 refine⟨λhlt=>⟨⟨t,0,rfl,by have:=of_decide_eq_true hlt; omega,rfl,by omega,hD,hn0,by omega⟩,?_⟩,λhge => ?_⟩
 . have hk:t<rows.length:=by have:=of_decide_eq_true hlt; omega
   have ek:=E0b hk []
   have hrl:=m0q hr ek
   rintro⟨z4,z5,z13,z50⟩ V10 l10 ⟨t',k,et,_,ek2,hkc,hR,hm0,hm1⟩
   dsimp only at et ek2 hR hm0 hm1 ⊢
   obtain rfl:t'=t:=by omega
   subst ek2
   refine⟨λhlt2 => ?_,λhge2 => ?_⟩
   . have hkk:k<m09 rows:=by have:=of_decide_eq_true hlt2; omega
     refine(I10 (l04.le boxC.le (View.le_trans L8 (View.le_trans l9 l10)) h) hr hk hkk).mono λv V11 l11 ⟨hv,hb⟩=>⟨_,hv,?_⟩
     have hno:(Bk.norm ((rows.getD t' []).getD k Bk.nil)).ok:=g0b _
     have hst:=X0q (q:=F07 z) (i:=t') (k:=k) (o:=c0d (F07 z) rows t') (row:=rows.getD t' [])
     rw[hR]at hst
     refine(a0o hb).mono λv V12 l12 hv=>⟨_,hv,(Z0c hno hq).mono λv V13 l13 hv=>⟨_,hv,λc1 => ?_,λc1=>(Z0c hq hno).mono λv V14 l14 hv=>⟨_,hv,λc2 => ?_,λc2 => ?_⟩⟩⟩
     . have c1:I08 (Bk.norm ((rows.getD t' []).getD k Bk.nil)) (F07 z)=1:=by simpa using c1
       unfold T0q at hst
       dsimp only at hst
       rw[if_pos c1]at hst
       rw[i64w (n:=(k:Int)+1) (by omega) (by omega),i64w (n:=z13+1) (by omega) (by omega)]
       exact⟨⟨t',k+1,rfl,hk,by omega,by omega,hst,by omega,by omega⟩,by omega⟩
     . have c1:¬I08 (Bk.norm ((rows.getD t' []).getD k Bk.nil)) (F07 z)=1:=by simpa using c1
       have c2:¬I08 (F07 z) (Bk.norm ((rows.getD t' []).getD k Bk.nil))=1:=by simpa using c2
       unfold T0q at hst
       dsimp only at hst
       rw[if_neg c1,if_neg c2]at hst
       rw[fin none (W0q hk (by rw[hrl]; omega) hst)]; rfl
     . have c1:¬I08 (Bk.norm ((rows.getD t' []).getD k Bk.nil)) (F07 z)=1:=by simpa using c1
       have c2:I08 (F07 z) (Bk.norm ((rows.getD t' []).getD k Bk.nil))=1:=by simpa using c2
       unfold T0q at hst
       dsimp only at hst
       rw[if_neg c1,if_pos c2]at hst
       rw[i64w (by omega) (by omega)]
       exact⟨⟨t',k+1,rfl,hk,by omega,by omega,hst,hm0,by omega⟩,by omega⟩
   . have e:k=m09 rows:=by have:=of_decide_eq_false hge2; omega
     subst e
     rw[i64w (by omega) (by omega)]
     exact⟨⟨t'+1,by omega,by omega,by rw[c0d,hrl]; exact hR,hm0,by omega⟩,by omega⟩
 . have e:t=rows.length:=by have:=of_decide_eq_false hge; omega
   subst e
   refine⟨λc => ?_,λc => ?_⟩
   . have c:¬y13=1:=by simpa using c
     rw[fin _ hD]; simp only[if_neg c]; rfl
   . have c:y13=1:=by simpa using c
     rw[fin _ hD]; simp only[if_pos c]; rfl
theorem d0o{V:View}{x:NumV}{z:Cq}(hx:QAt V x z)(hz:z.sz<=2^40):a00 prog J0a #[x.val] V λv _=>v = .bool (decide (z.im=0/\0<z.re)):=by
 have side:a00 prog D0i #[x.val] V λv _=>v = .int .i64 (cmpR z.im 0) :=
  c0h x V _ ((g0a hx hz).mono λv V1 _ ⟨r,hv,hr⟩=>⟨r,hv,(O05 hr).mono λv V2 _ hv=>⟨_,hv,rfl⟩⟩)
 refine u0a x V _ (side.mono λv V1 l1 hv=>⟨_,hv,λc => ?_,λc => ?_⟩)
 . have c:cmpR z.im 0=0:=by simpa using c
   have h0:=O0q.1 c
   refine(O05 (hx.le l1)).mono λv V2 _ hv=>⟨_,hv,?_⟩
   congr 1
   have:=a0t (x:=z.re)
   refine decide_eq_decide.2 ⟨λg=>⟨h0,?_⟩,λg => ?_⟩
   . exact Classical.not_not.1 λk=>by have:=this.2 k; omega
   . have:¬cmpR z.re 0<=0:=λk=>(this.1 k) g.2
     omega
 . have c:¬cmpR z.im 0=0:=by simpa using c
   rw[decide_eq_false (λg=>c (O0q.2 g.1))]
theorem d0d{s t:Sk}:I08 s t=1↔s.hi<t.lo:=by
 unfold I08
 by_cases c:s.hi<t.lo
 . rw[if_pos c]; exact⟨λ_=>c,λ_=>rfl⟩
 . rw[if_neg c]
   refine⟨λh => ?_,λh=>absurd h c⟩
   split at h<;>exact absurd h (by decide)
set_option maxHeartbeats 1000000 in
theorem Y0q{V:View}{p:Sl}{x:NumV}{rows:List (List Bk)}{z:Cq}(h:l04 4 boxC V p rows)(hn:rows.length<=64)(hc:∀row∈rows,row.length<=64)(hx:QAt V x z)(hz:z.sz<=64) :
 a00 prog F0d #[p.v,x.val] V λv _=>v=(I0j rows z).val:=by
 have hl:p.len=rows.length:=h.len
 have zq:=I0l (z:=z) (w:=four) (S:=64) hz c0o
 have hq:(F07 z).ok:=n11 _ _
 refine C0c p x V _
  (λc y _=>∃t:Nat,y.t14=t/\t<=rows.length/\c0d (F07 z) rows t=some ⟨y.t11,y.t12,y.t13⟩/\0<=y.t13/\y.t13<=t*64) (λ_ y _=>rows.length-y.t14.toNat)
  (λc y _=>∃t k:Nat,c.t14=t/\t<rows.length/\y.t15=k/\k<=(rows.getD t []).length/\dRow (F07 z) t (c0d (F07 z) rows t) (rows.getD t []) k=some ⟨y.t11,y.t12,y.t13⟩/\0<=y.t13/\y.t13<=t*64+k) (λc y _=>(rows.getD c.t14.toNat []).length-y.t15.toNat) ?_
 rw[hl]
 refine⟨λc => ?_,λc => ?_⟩
 . have c:rows.length=0:=by simpa using c
   unfold I0j; rw[if_pos c]; rfl
 have c:rows.length≠0:=by intro e; rw[e]at c; exact absurd c (by decide)
 refine(d0o hx (by omega)).mono λv V1 l1 hv=>⟨_,hv,λd => ?_,λd => ?_⟩
 . have d:¬(z.im=0/\0<z.re):=by
     intro g
     rw[decide_eq_true g]at d
     exact absurd d (by decide)
   unfold I0j; rw[if_neg c,if_neg d]; rfl
 have d:z.im=0/\0<z.re:=by simpa using d
 have fin:∀s,c0d (F07 z) rows rows.length=s->I0j rows z=(match s with|none=>⟨0,0,5⟩|some s=>if s.n=1 then⟨s.i,s.j,0⟩else⟨0,0,5⟩):=λs e=>by
  unfold I0j; rw[if_neg c,if_pos d,e]
  all_goals (cases s<;>rfl)
 refine(j06 (n:=4) (by decide) (by decide)).mono λv V2 l2 ⟨r2,hv,h2⟩=>⟨r2,hv,?_⟩
 have h2:QAt V2 r2 four:=h2
 have four40:=c0o
 refine(K0k (hx.le (View.le_trans l1 l2)) h2 (by omega) (by omega)).mono λv V3 l3 ⟨r3,e3,hv,h3,_⟩=>⟨r3,e3,hv,?_⟩
 refine(O0h h3 h3 (by omega) (by omega)).mono λv V4 l4 hv=>⟨_,_,hv,⟨0,rfl,by omega,rfl,by decide,by decide⟩,?_⟩
 have L4:=View.le_trans l1 (View.le_trans l2 (View.le_trans l3 l4))
 rintro⟨y11,y12,y13,y14⟩ V5 l5 ⟨t,et,ht,hD,hn0,hn1⟩
 dsimp only at et hD hn0 hn1 ⊢
 subst et
 refine⟨λhlt=>⟨⟨t,0,rfl,by have:=of_decide_eq_true hlt; omega,rfl,by omega,hD,hn0,by omega⟩,?_⟩,λhge => ?_⟩
 . have hk:t<rows.length:=by have:=of_decide_eq_true hlt; omega
   have ek:=E0b hk []
   have hr64:=hc _ (List.mem_of_getElem? ek)
   rintro⟨z11,z12,z13,z15⟩ V6 l6 ⟨t',k,et,_,ek2,hkc,hR,hm0,hm1⟩
   dsimp only at et ek2 hR hm0 hm1 ⊢
   obtain rfl:t'=t:=by omega
   subst ek2
   obtain⟨g1,s,q1,q2⟩:=(l04.le boxC.le (View.le_trans L4 (View.le_trans l5 l6)) h).row (t:=(t':Int)) (by omega) (row:=rows.getD t' []) (by rw[Int.toNat_natCast]; exact ek)
   rw[hl]at g1
   have hsl:s.len=(rows.getD t' []).length:=q2.len
   refine⟨g1,s,q1,λhlt2 => ?_,λhge2 => ?_⟩
   . have hkk:k<(rows.getD t' []).length:=by have:=of_decide_eq_true hlt2; omega
     obtain⟨d1,_,⟨rfl,hb⟩,_,hh,hs⟩:=k00.get q2 (t:=(k:Int)) (by omega) (z:=(rows.getD t' []).getD k Bk.nil) (by rw[Int.toNat_natCast]; exact E0b hkk _)
     have hno:(Bk.norm ((rows.getD t' []).getD k Bk.nil)).ok:=g0b _
     have hst:=X0q (q:=F07 z) (i:=t') (k:=k) (o:=c0d (F07 z) rows t') (row:=rows.getD t' [])
     rw[hR]at hst
     refine⟨g1,s,q1,d1,_,hh,hs,(a0g hb).mono λv V7 l7 hv=>⟨_,hv,λc1 => ?_,λc1=>⟨λc2 => ?_,λc2 => ?_⟩⟩⟩
     . have c1:decide ((Bk.norm ((rows.getD t' []).getD k Bk.nil)).hi<(F07 z).lo)=true:=by rw[<-ltK hno.hi hq.lo]; exact c1
       have c1:=d0d.2 (of_decide_eq_true c1)
       unfold T0q at hst
       dsimp only at hst
       rw[if_pos c1]at hst
       rw[i64w (n:=(k:Int)+1) (by omega) (by omega),i64w (n:=z13+1) (by omega) (by omega)]
       exact⟨⟨t',k+1,rfl,hk,by omega,by omega,hst,by omega,by omega⟩,by rw[Int.toNat_natCast]; omega⟩
     . have c1:decide ((Bk.norm ((rows.getD t' []).getD k Bk.nil)).hi<(F07 z).lo)=false:=by rw[<-ltK hno.hi hq.lo]; exact c1
       have c1:¬I08 (Bk.norm ((rows.getD t' []).getD k Bk.nil)) (F07 z)=1:=λg=>(of_decide_eq_false c1) (d0d.1 g)
       have c2:decide ((Bk.norm ((rows.getD t' []).getD k Bk.nil)).lo<=(F07 z).hi)=true:=by rw[<-leK hno.lo hq.hi]; exact c2
       have c2:¬I08 (F07 z) (Bk.norm ((rows.getD t' []).getD k Bk.nil))=1:=λg=>by
        have:=d0d.1 g; have:=of_decide_eq_true c2; omega
       unfold T0q at hst
       dsimp only at hst
       rw[if_neg c1,if_neg c2]at hst
       rw[fin none (W0q hk (by omega) hst)]; rfl
     . have c1:decide ((Bk.norm ((rows.getD t' []).getD k Bk.nil)).hi<(F07 z).lo)=false:=by rw[<-ltK hno.hi hq.lo]; exact c1
       have c1:¬I08 (Bk.norm ((rows.getD t' []).getD k Bk.nil)) (F07 z)=1:=λg=>(of_decide_eq_false c1) (d0d.1 g)
       have c2:decide ((Bk.norm ((rows.getD t' []).getD k Bk.nil)).lo<=(F07 z).hi)=false:=by rw[<-leK hno.lo hq.hi]; exact c2
       have c2:I08 (F07 z) (Bk.norm ((rows.getD t' []).getD k Bk.nil))=1:=d0d.2 (by have:=of_decide_eq_false c2; omega)
       unfold T0q at hst
       dsimp only at hst
       rw[if_neg c1,if_pos c2]at hst
       rw[i64w (by omega) (by omega)]
       exact⟨⟨t',k+1,rfl,hk,by omega,by omega,hst,hm0,by omega⟩,by rw[Int.toNat_natCast]; omega⟩
   . have e:k=(rows.getD t' []).length:=by have:=of_decide_eq_false hge2; omega
     rw[i64w (by omega) (by omega)]
     exact⟨⟨t'+1,by omega,by omega,by rw[c0d,<-e]; exact hR,hm0,by omega⟩,by omega⟩
 . have e:t=rows.length:=by have:=of_decide_eq_false hge; omega
   subst e
   refine⟨λc => ?_,λc => ?_⟩
   . have c:¬y13=1:=by simpa using c
     rw[fin _ hD]; simp only[if_neg c]; rfl
   . have c:y13=1:=by simpa using c
     rw[fin _ hD]; simp only[if_pos c]; rfl
def J0j(w:Int):Nat:=(FloatKind.f64.format.div (FloatKind.f64.nearest w) 4634204016564240384).getD 0
def X13(w:Nat):Bool:=match FloatKind.f64.format.div (FloatKind.f64.nearest (w:Int)) 4634204016564240384 with
 | some e=>decide (e<2^64)
 | none=>false
theorem J10:(List.range 256).all X13=true:=by decide +kernel
theorem e0z{w:Int}(h0:0<=w)(h1:w<=255):FloatKind.f64.format.div (FloatKind.f64.nearest w) 4634204016564240384=some (J0j w)/\J0j w<2^64:=by
 have:=List.all_eq_true.1 J10 w.toNat (by simp; omega)
 unfold X13 at this
 rw[Int.toNat_of_nonneg h0]at this
 unfold J0j
 cases e:FloatKind.f64.format.div (FloatKind.f64.nearest w) 4634204016564240384 with
 | none=>rw[e]at this; simp at this
 | some r=>rw[e]at this; exact⟨rfl,by simpa using this⟩
def Z0q(k:S0e):Prop:=ratI k.at_/\(0<=k.w/\k.w<=255)/\(0<=k.h/\k.h<=255)
def e0o(_:View)(x:List Value)(k:S0e):Prop:=x=k.val.cells.toList
def l0a(k:S0e):Bk:=(ofB (ratQ k.at_)).add (mkB 0 0 (J0j k.w) (J0j k.h))
theorem f0z(b:BoxV):∀v∈b.val.cells.toList,Value.oneCell' v=true:=by
 intro v hv
 simp[BoxV.val,Value.cells]at hv
 rcases hv with rfl|rfl|rfl|rfl<;>rfl
set_option maxHeartbeats 2000000 in
theorem t0w{V:View}{p:Sl}{ks:List (List S0e)}(h:l04 5 e0o V p ks)(hn:ks.length<=2^20)(hi:∀row∈ks,row.length<=2^20/\∀k∈row,Z0q k) :
 a00 prog o0c #[p.v] V λv V'=>∃(g:s05) (r:Sl),v = .tuple #[g.val,r.v]/\l04 4 boxC V' g.rows (M0c (ks.map λrow=>row.map l0a))/\l04 4 boxC V' r (M0c (ks.map λrow=>row.map l0a)):=by
 have hl:p.len=ks.length:=h.len
 let rowB:View->List Value->List Bk->Prop:=λV x row=>∃s:Sl,x=[s.v]/\k00 4 boxC V s row
 have rowB_le:∀ {V V':View},V.le V'->∀x row,rowB V x row->rowB V' x row:=λhle x row ⟨s,e,hs⟩=>⟨s,e,k00.le (boxC.le hle) hle hs⟩
 let F:List S0e->List Bk:=λrow=>row.map l0a
 refine i0c p V _
  (λ_ x V'=>∃(t:Nat) (l4 l5:List Value),x.t22=t/\t<=ks.length/\f03 1 x.t4l x.t4c x.o4 l4/\x.t4l=t/\t01 1 rowB V' l4 ((ks.take t).map F)/\f03 1 x.t5l x.t5c x.o5 l5/\x.t5l=t/\t01 1 rowB V' l5 ((ks.take t).map F)) (λ_ x _=>ks.length-x.t22.toNat)
  (λc x V'=>∃(t k:Nat) (l4 l5 l8 l9:List Value),c.t22=t/\t<ks.length/\x.t28=k/\k<=(ks.getD t []).length/\f03 1 c.t4l c.t4c x.o4 l4/\c.t4l=t/\t01 1 rowB V' l4 ((ks.take t).map F)/\f03 1 c.t5l c.t5c x.o5 l5/\c.t5l=t/\t01 1 rowB V' l5 ((ks.take t).map F) /\
    f03 4 x.t8l x.t8c x.o8 l8/\x.t8l=k/\t01 4 boxC V' l8 (F ((ks.getD t []).take k))/\f03 4 x.t9l x.t9c x.o9 l9/\x.t9l=k/\t01 4 boxC V' l9 (F ((ks.getD t []).take k))) (λc x _=>c.t26.len-x.t28.toNat) ?_
 rw[hl]
 refine⟨⟨0,[],[],rfl,by omega,f03.nil,rfl,rfl,f03.nil,rfl,rfl⟩,?_⟩
 rintro⟨t4l,t4c,t5l,t5c,t22,o2,o4,o5⟩ V1 l1 ⟨t,l4,l5,et,ht,hL4,e4,hC4,hL5,e5,hC5⟩
 dsimp only at et hL4 e4 hC4 hL5 e5 hC5 ⊢
 subst et; subst e4
 obtain rfl:t5l=t4l:=e5
 refine⟨λhlt => ?_,λhge => ?_⟩
 . have hk:t5l<ks.length:=by have:=of_decide_eq_true hlt; omega
   have ek:=E0b hk []
   obtain⟨hi1,hi2⟩:=hi _ (List.mem_of_getElem? ek)
   obtain⟨g1,s,q1,q2⟩:=l04.row (l04.le (P:=e0o) (λ_ _ _ h=>h) l1 h) (t:=(t5l:Int)) (by omega) (row:=ks.getD t5l []) (by rw[Int.toNat_natCast]; exact ek)
   rw[hl]at g1
   have hsl:s.len=(ks.getD t5l []).length:=q2.len
   have tk:(ks.take (t5l+1)).map F=(ks.take t5l).map F++[F (ks.getD t5l [])]:=by rw[List.take_add_one,ek]; simp
   refine⟨g1,s,q1,⟨t5l,0,l4,l5,[],[],rfl,hk,rfl,by omega,hL4,rfl,hC4,hL5,rfl,hC5,f03.nil,rfl,rfl,f03.nil,rfl,rfl⟩,?_⟩
   rintro⟨t8l,t8c,t9l,t9c,t28,o4',o5',o8,o9⟩ V2 l2 ⟨t',k,m4,m5,l8,l9,et,_,ekk,hkr,hM4,_,hD4,hM5,_,hD5,hL8,e8,hC8,hL9,e9,hC9⟩
   dsimp only at et ekk hM4 hD4 hM5 hD5 hL8 e8 hC8 hL9 e9 hC9 ⊢
   obtain rfl:t'=t5l:=by omega
   subst ekk; subst e8
   obtain rfl:t9l=t8l:=e9
   rw[hsl]
   refine⟨λhlt2 => ?_,λhge2 => ?_⟩
   . have hkk:t9l<(ks.getD t' []).length:=by have:=of_decide_eq_true hlt2; omega
     have ec:=E0b hkk ⟨⟨0,0,0⟩,0,0⟩
     obtain⟨a1,a2,a3⟩:=hi2 _ (List.mem_of_getElem? ec)
     obtain⟨d1,_,rfl,_,hh,hs⟩:=k00.get (k00.le (P:=e0o) (V:=V1) (V':=V2) (λ_ _ h=>h) l2 q2) (t:=(t9l:Int)) (by omega) (z:=(ks.getD t' []).getD t9l ⟨⟨0,0,0⟩,0,0⟩) (by rw[Int.toNat_natCast]; exact ec)
     have tc:F ((ks.getD t' []).take (t9l+1))=F ((ks.getD t' []).take t9l)++[l0a ((ks.getD t' []).getD t9l ⟨⟨0,0,0⟩,0,0⟩)]:=by
      show List.map l0a _=_
      rw[List.take_add_one,ec]; simp[F]
     rw[hsl]at d1
     generalize (ks.getD t' []).getD t9l ⟨⟨0,0,0⟩,0,0⟩=x at *
     obtain⟨w1,w2⟩:=e0z a2.1 a2.2
     obtain⟨w3,w4⟩:=e0z a3.1 a3.2
     have zr:=K0q a1
     have okm:=C13 0 0 (J0j x.w) (J0j x.h)
     have oko:=U13 (ratQ x.at_)
     refine⟨d1,x,hh,hs,_,w1,_,w3,(W0y (c:=⟨0,0⟩) (d:=⟨J0j x.w,J0j x.h⟩) (by decide) (by decide) w2 w4).mono λv V3 l3 hv=>⟨_,_,hv,?_⟩⟩
     refine(I0k (c:=⟨0,0⟩) (d:=⟨J0j x.w,J0j x.h⟩) (by decide) (by decide) w2 w4).mono λv V4 l4' hv=>⟨_,_,hv,?_⟩
     refine(p0h a1).mono λv V5 l5' ⟨r5,hv,h5⟩=>⟨r5,hv,(C12 _ h5 (by omega)).mono λv V6 l6 hv=>⟨_,hv,?_⟩⟩
     refine(I0q oko okm).mono λv V7 l7 hv=>⟨_,hv,λb1 V8 l8' _ hb1 => ?_⟩
     have hnew:V8.has (some (Addr.mk b1 0 none)) (l0a x).v.val.cells.toList:=Q04 (cs:=(l0a x).v.val.cells.toList) (j:=0) hb1 (λi v hv=>by rw[Nat.zero_add]; exact hv) rfl
     have hcb:(l0a x).ok:=⟨g0b _,g0b _⟩
     refine⟨l8,_,hL8,hnew,rfl,f0z _,by unfold maxLen; omega,by omega,λc1 l3' hl3 => ?_⟩
     refine(b0g a1).mono λv V9 l9' ⟨r8,hv,h8⟩=>⟨r8,hv,(M0q h8 (by omega)).mono λv V10 l10 hv=>⟨_,hv,?_⟩⟩
     refine(K0g oko okm).mono λv V11 l11 hv=>⟨_,hv,λb2 V12 l12 _ hb2 => ?_⟩
     have hnew2:V12.has (some (Addr.mk b2 0 none)) (l0a x).v.val.cells.toList:=Q04 (cs:=(l0a x).v.val.cells.toList) (j:=0) hb2 (λi v hv=>by rw[Nat.zero_add]; exact hv) rfl
     refine⟨l9,_,hL9,hnew2,rfl,f0z _,by unfold maxLen; omega,by omega,λc2 l6' hl6 => ?_⟩
     rw[i64w (by omega) (by omega)]
     have L:=View.le_trans l3 (View.le_trans l4' (View.le_trans l5' (View.le_trans l6 (View.le_trans l7 (View.le_trans l8' (View.le_trans l9' (View.le_trans l10 (View.le_trans l11 l12))))))))
     refine⟨⟨t',t9l+1,m4,m5,_,_,rfl,hk,by omega,by omega,hM4,rfl,hD4.imp (rowB_le L),hM5,rfl,hD5.imp (rowB_le L),hl3,rfl,?_,hl6,rfl,?_⟩,by omega⟩
     . rw[tc]; exact(hC8.imp (boxC.le L)).append (t01.one rfl ⟨rfl,hcb⟩)
     . rw[tc]; exact(hC9.imp (boxC.le L)).append (t01.one rfl ⟨rfl,hcb⟩)
   . have e:t9l=(ks.getD t' []).length:=by have:=of_decide_eq_false hge2; omega
     rw[e,List.take_length]at hC8 hC9
     intro b3 V13 l13 hb3 b4 V14 l14 hb4 b5 V15 l15 _ hb5
     have r8:k00 4 boxC V15 ⟨lstA b3 t8c,t9l,t8c⟩ (F (ks.getD t' [])):=k00.le (boxC.le (View.le_trans l14 l15)) (View.le_trans l14 l15) (G05 hL8 hb3 (hC8.imp (boxC.le l13)) (by simp[F,e]))
     have hn5:V15.has (some (Addr.mk b5 0 none)) [Value.slice (lstA b3 t8c) t9l t8c]:=Q04 (cs:=[Value.slice (lstA b3 t8c) t9l t8c]) (j:=0) hb5 (λi v hv=>by rw[Nat.zero_add]; exact hv) rfl
     refine⟨m4,_,hM4,hn5,rfl,by intro v hv; simp at hv; subst hv; rfl,by unfold maxLen; omega,by omega,λc3 l9' hl9 b6 V16 l16 _ hb6 => ?_⟩
     have r9:k00 4 boxC V16 ⟨lstA b4 t9c,t9l,t9c⟩ (F (ks.getD t' [])):=k00.le (boxC.le (View.le_trans l15 l16)) (View.le_trans l15 l16) (G05 hL9 hb4 (hC9.imp (boxC.le (View.le_trans l13 l14))) (by simp[F,e]))
     have hn6:V16.has (some (Addr.mk b6 0 none)) [Value.slice (lstA b4 t9c) t9l t9c]:=Q04 (cs:=[Value.slice (lstA b4 t9c) t9l t9c]) (j:=0) hb6 (λi v hv=>by rw[Nat.zero_add]; exact hv) rfl
     refine⟨m5,_,hM5,hn6,rfl,by intro v hv; simp at hv; subst hv; rfl,by unfold maxLen; omega,by omega,λc4 l12 hl12 => ?_⟩
     rw[i64w (by omega) (by omega)]
     have L:=View.le_trans l13 (View.le_trans l14 (View.le_trans l15 l16))
     refine⟨⟨t'+1,_,_,by omega,by omega,hl9,rfl,?_,hl12,rfl,?_⟩,by omega⟩
     . rw[tk]; exact(hD4.imp (rowB_le L)).append (t01.one rfl ⟨_,rfl,k00.le (boxC.le l16) l16 r8⟩)
     . rw[tk]; exact(hD5.imp (rowB_le L)).append (t01.one rfl ⟨_,rfl,r9⟩)
 . have e:t5l=ks.length:=by have:=of_decide_eq_false hge; omega
   subst e
   rw[List.take_length]at hC4 hC5
   intro b7 V17 l17 hb7
   have hR:l04 4 boxC V17 ⟨lstA b7 t4c,ks.length,t4c⟩ (ks.map F):=G05 hL4 hb7 (hC4.imp (rowB_le l17)) (by rw[List.length_map])
   refine(J0d hR).mono λv V18 l18 ⟨g,hv,hg⟩=>⟨g,_,hv,λc => ?_,λc b8 V19 l19 hb8 => ?_⟩
   . refine⟨g,⟨none,0,0⟩,rfl,hg,?_⟩
     have c:¬l0q (ks.map F)=0:=by simpa using c
     have:M0c (ks.map λrow=>row.map l0a)=[]:=by
      unfold l0q at c
      unfold M0c
      split
      . rename_i hh; rw[if_pos hh]at c; exact absurd rfl c
      . rfl
     rw[this]; exact k00.nil
   . refine⟨g,⟨lstA b8 t5c,ks.length,t5c⟩,rfl,l04.le boxC.le l19 hg,?_⟩
     have c:l0q (ks.map F)=0:=by simpa using c
     have e2:M0c (ks.map λrow=>row.map l0a)=ks.map F:=by
      unfold l0q at c
      unfold M0c
      split
      . rfl
      . rename_i hh; rw[if_neg hh]at c; exact absurd c (by decide)
     rw[e2]
     exact G05 hL5 hb8 (hC5.imp (rowB_le (View.le_trans l17 (View.le_trans l18 l19)))) (by rw[List.length_map])
theorem f0o{V:View}{p:Sl}{ks:List (List S0e)}{q:RatV}(h:l04 5 e0o V p ks)(hi:∀row∈ks,∀k∈row,Z0q k)(hq:ratI q) :
 a00 prog I0a #[p.v,q.val] V λv _=>v = .bool true:=by
 have hl:p.len=ks.length:=h.len
 refine w0a p q V _ (λ_ x _=>∃t:Nat,x.t21=t/\t<=ks.length/\∀row∈ks.take t,row.length<=9) (λ_ x _=>ks.length-x.t21.toNat) ?_
 rw[hl]
 refine⟨λ_=>M0b.mono λv V1 _ hv=>⟨_,hv,rfl⟩,λc=>⟨⟨0,rfl,by omega,by simp⟩,?_⟩⟩
 have c:=of_decide_eq_false c
 rintro⟨t21⟩ V2 l2 ⟨t,et,ht,h9⟩
 dsimp only at et ⊢
 subst et
 refine⟨λhlt => ?_,λhge => ?_⟩
 . have hk:t<ks.length:=by have:=of_decide_eq_true hlt; omega
   have ek:=E0b hk []
   obtain⟨g1,s,q1,q2⟩:=l04.row (l04.le (P:=e0o) (λ_ _ _ h=>h) l2 h) (t:=(t:Int)) (by omega) (row:=ks.getD t []) (by rw[Int.toNat_natCast]; exact ek)
   rw[hl]at g1
   have hsl:s.len=(ks.getD t []).length:=q2.len
   refine⟨g1,s,q1,λ_=>M0b.mono λv V1 _ hv=>⟨_,hv,rfl⟩,λc9 => ?_⟩
   have c9:=of_decide_eq_false c9
   rw[i64w (by omega) (by omega)]
   refine⟨⟨t+1,by omega,by omega,λrow hr => ?_⟩,by omega⟩
   rw[List.take_add_one,ek]at hr
   rcases List.mem_append.1 hr with hr|hr
   . exact h9 row hr
   . rw[show row=ks.getD t []by simpa using hr]; omega
 . have e:t=ks.length:=by have:=of_decide_eq_false hge; omega
   subst e
   rw[List.take_length]at h9
   refine(t0w (l04.le (P:=e0o) (λ_ _ _ h=>h) l2 h) (by omega) (λrow hr=>⟨by have:=h9 row hr; omega,hi row hr⟩)).mono λv V4 l4 ⟨r3,r4,hv,h3,h4⟩=>⟨r3,r4,hv,?_⟩
   have hrect:=g0w (ks.map λrow=>row.map l0a)
   obtain⟨g64,c64,_⟩:=a10 (ks.map λrow=>row.map l0a)
   have zr:=K0q hq
   refine(p0h hq).mono λv V5 l5 ⟨r5,hv,h5⟩=>⟨r5,hv,?_⟩
   refine(d0z (l04.le boxC.le l5 h3) hrect g64 c64 h5 zr).mono λv V6 l6 hv=>⟨_,_,_,hv,?_⟩
   refine(b0g hq).mono λv V7 l7 ⟨r9,hv,h9'⟩=>⟨r9,hv,?_⟩
   refine(Y0q (l04.le boxC.le (View.le_trans l5 (View.le_trans l6 l7)) h4) g64 (λrow hr=>by rw[hrect row hr]; exact c64) h9' zr).mono λv V8 l8 hv=>⟨_,_,_,hv,λ_=>⟨λ_=>⟨λ_ => ?_,λc=>absurd c (by simp)⟩,λc=>absurd c (by simp)⟩,λc=>absurd c (by simp)⟩
   exact M0b.mono λv V9 _ hv=>⟨_,hv,rfl⟩
end Go.Proofs.YtfdaofhjkdabbaaGreat
namespace Go.Proofs.YtfdaofhjkdabbaaGreat
open Go Go.Vc Go.Proofs Go.ChangeShapes Go.RowKit
theorem two8{cs:List Value}(h:K0f (.int .u8 :: .int .u8::[]) cs) :
 ∃(i j:Int),cs=[.int .u8 i,.int .u8 j]/\((0<=i/\i<=255)/\(0<=j/\j<=255)):=by
 cases cs with
 | nil=>exact h.elim
 | cons x cs =>
   obtain⟨⟨a,e1,w1⟩,h⟩:=h
   cases cs with
   | nil=>exact h.elim
   | cons y cs =>
     obtain⟨⟨b,e2,w2⟩,h⟩:=h
     exact⟨a,b,by rw[e1,e2,c0z h],⟨bounds_u8 w1,bounds_u8 w2⟩⟩
section
variable {H:Type} {enc:TypeId×Value->H} {P:Program} {w:World} {base:Nat} {spare:Nat->Bool} {held:Bool} {t:TypeId} {v:Value} {dd:DataW H} {ps:List MemPlace}
theorem b0t{t2 e:TypeId}(ht:P.underlying t=some (.slice t2))(ht2:P.underlying t2=some (.slice e))(hc2:P.cellsOf t2=1)(hc:P.cellsOf e=5)(hk:P0s P 8 e=some (i3 (.int .u8 :: .int .u8::[])))(hv:∃a l c,v = .slice a l c)(h:DataW.Trod enc P w base spare held t v dd ps) :
 ∃(s:Sl) (ks:List (List S0e)),v=s.v/\l04 5 e0o (B07 w) s ks/\ks.length<=maxLen/\∀row∈ks,∀k∈row,Z0q k:=by
 obtain⟨fuel,h⟩:=h
 obtain⟨s,zs,e1,h1,h2,h3⟩:=u0q (α:=List S0e) ht hc2 (λrow=>∀k∈row,Z0q k) (λV x row=>∃s:Sl,x=[s.v]/\k00 5 e0o V s row) (λg=>by
  obtain⟨s,zs,e1,h1,h2,h3⟩:=u0q (α:=S0e) ht2 hc Z0q e0o (λ{fuel cs x} g=>by
   obtain⟨r,c0,e0,hr,h⟩:=q14 (D0g 8 fuel e _ cs x hk g)
   obtain⟨i,j,e2,hij⟩:=two8 h
   exact⟨⟨r,i,j⟩,⟨hr,hij⟩,by rw[e0,e2]; rfl⟩) g
  exact⟨zs,h3,s,e1,h1⟩) h
 exact⟨s,zs,w0q e1 hv,h1,h2,h3⟩
end
