/- Part. -/
import Derived.Test.YtjadnpidefnpoaaGreatVcF
namespace Go.Vc
open Go Go.RowKit
section mono
variable {P:Program} {Shp:l04} {ops:Array Oper} {σ:St} {V:View} {K K':St->View->Prop}
theorem D0u{sp:Bool}{o:Oper}(hk:∀σ' V',V.le V'->V'.Fin->K σ' V'->K' σ' V')(h:T0l P Shp sp o σ V K):T0l P Shp sp o σ V K':=by
 revert h; unfold T0l;split
 . split
   . intro h w b hw h1 h2;refine(h w b hw h1 h2).mono λe w' ⟨v,V',l',he,hle,hin,hf,hb,h3,h4,r⟩=>⟨v,V',l',he,hle,hin,hf,hb,h3,h4,?_⟩;exact u0c (λs=>N0b λs=>hk _ V' hle hin.fin) r
   exact id
 exact id
theorem L0z{rt:Nat}{o:Oper}(hV:V.Fin)(hk:∀σ' V',V.le V'->V'.Fin->K σ' V'->K' σ' V')(h:appT P rt o σ V K):appT P rt o σ V K':=by
 revert h; unfold appT;split
 . split
   . split
     . rintro⟨xs,vs,a1,a2,a3,a4,a5,a6,h⟩;exact⟨xs,vs,a1,a2,a3,a4,a5,a6,λcap' l' hok=>hk _ V (Gw V) hV (h cap' l' hok)⟩
     exact id
   . split
     . rintro⟨xs,vs,a1,a2,a3,a4,a5,a6,h⟩;exact⟨xs,vs,a1,a2,a3,a4,a5,a6,λcap' l' hok=>hk _ V (Gw V) hV (h cap' l' hok)⟩
     exact id
   exact id
 exact id
theorem E0u{sol:Bool}{rt:Nat}{o:Oper}(hk:∀σ' V',V.le V'->V'.Fin->K σ' V'->K' σ' V')(h:U0l P Shp sol rt o σ V K):U0l P Shp sol rt o σ V K':=by
 revert h; unfold U0l;split
 . split
   . split
     . intro h w hw;refine(h w hw).mono λe w' ⟨b,n,cap,l,rest,V',a1,a2,a3,a4,a5,a6,a7,a8⟩=>⟨b,n,cap,l,rest,V',a1,a2,a3,a4,a5,a6,a7,?_⟩;cases sol with
       | false=>exact hk _ V' a2 a3.fin a8
       | true=>exact⟨a8.1,hk _ V' a2 a3.fin a8.2⟩
     exact id
   . split
     . intro h w hw;exact(h w hw).mono λe w' ⟨b,n,cap,l,rest,V',a1,a2,a3,a4,a5,a6,x,a7,a8⟩=>⟨b,n,cap,l,rest,V',a1,a2,a3,a4,a5,a6,x,a7,hk _ V' a2 a3.fin a8⟩
     exact id
   exact id
 exact id
theorem F0r{o:Oper}(hk:∀σ' V',V.le V'->V'.Fin->K σ' V'->K' σ' V')(h:u0h P o σ V K):u0h P o σ V K':=by
 revert h; unfold u0h;split
 . split
   . intro h w b hw h1 h2;exact(h w b hw h1 h2).mono λe w' ⟨V',l',he,hle,hin,hf,hb,h3,h4,r⟩=>⟨V',l',he,hle,hin,hf,hb,h3,h4,hk _ V' hle hin.fin r⟩
   exact id
 exact id
theorem F0u{lid:Nat}{o:Oper}(hk:∀σ' V',V.le V'->V'.Fin->K σ' V'->K' σ' V')(h:W0l P lid o σ V K):W0l P lid o σ V K':=by
 revert h; unfold W0l;split
 . split
   . split
     . intro h; exact h.mono λn' cap' l' V' hle hfin r=>hk _ V' hle hfin r
     exact id
   exact id
 exact id
theorem G0u{sp:Bool}{rt:Nat}{o:Oper}(hk:∀σ' V',V.le V'->V'.Fin->K σ' V'->K' σ' V')(h:A0f P Shp sp rt o σ V K):A0f P Shp sp rt o σ V K':=by
 revert h; unfold A0f;split
 . intro h; exact h.mono λv m' V' hle hfin r=>u0c (λs=>N0b λs=>hk _ V' hle hfin) r
 exact id
theorem I0w{rt:Nat}{o:Oper}(hV:V.Fin)(hk:∀σ' V',V.le V'->V'.Fin->K σ' V'->K' σ' V')(h:m0l P rt o σ V K):m0l P rt o σ V K':=by
 revert h; unfold m0l;split
 . split
   . rintro⟨xs,vs,a1,a2,a3,a4,a5,a6,a7,a8,h1,h2⟩;exact⟨xs,vs,a1,a2,a3,a4,a5,a6,a7,a8,h1,λra rc m' g=>hk _ V (Gw V) hV (h2 ra rc m' g)⟩
   exact id
 exact id
theorem H0u{rt:Nat}{o:Oper}(hV:V.Fin)(hk:∀σ' V',V.le V'->V'.Fin->K σ' V'->K' σ' V')(h:o0g P rt o σ V K):o0g P rt o σ V K' :=
 E0j (λ_ _=>rfl) rfl (λ_ _=>hk _ V (Gw V) hV) h
theorem M0z{an:An}{o:Oper}(hV:V.Fin)(hk:∀σ' V',V.le V'->V'.Fin->K σ' V'->K' σ' V')(h:actT P Shp an o σ V K):actT P Shp an o σ V K':=by
 revert h; unfold actT;split
 . exact Y0l (λ_ _=>rfl) (λs V' hle hfin=>hk _ V' hle hfin)
 . exact C0j (λ_ _=>rfl) (λs V' hle hfin=>hk _ V' hle hfin)
 . exact D0u hk
 . exact L0z hV hk
 . exact u0g (λ_ _=>rfl) (λs V' hle hfin=>hk _ V' hle hfin)
 . exact Z0l (λ_ _=>rfl) (λs V' hle hfin=>hk _ V' hle hfin)
 . exact E0u hk
 . exact F0r hk
 . exact F0u hk
 . exact G0u hk
 . exact I0w hV hk
 . exact H0u hV hk
 exact x0h λs ob=>N0b λs'=>hk _ V (Gw V) hV
theorem f0p{an:An}{o:Oper}(hV:V.Fin)(hk:∀σ' V',V.le V'->V'.Fin->K σ' V'->K' σ' V')(h:I05 P Shp ops an o σ V K):I05 P Shp ops an o σ V K':=by
 rcases P0a h with⟨g,h⟩|⟨g,h⟩
 . exact W0c g (M0z hV hk h)
 exact C08 g (hk _ V (Gw V) hV h)
theorem a0m:∀ {l:List (Oper×An)} {σ:St} {V:View},V.Fin->(∀σ' V',V.le V'->V'.Fin->K σ' V'->K' σ' V')->O0f P Shp ops l σ V K->O0f P Shp ops l σ V K'
 | [],_,V,hV,hk,h=>hk _ _ (Gw V) hV h
 | (_,_)::_,_,_,hV,hk,h=>f0p hV (λ_ _ hle hfin h'=>a0m hfin (λσ2 V2 hle2 hfin2=>hk σ2 V2 (Gx hle hle2) hfin2) h') h
theorem b0m(an:An):clsA an=0\/clsA an=1\/clsA an=2\/clsA an=3\/clsA an=4\/clsA an=5\/clsA an=6:=by
 unfold clsA; split<;>simp
theorem swap{y x:Oper×An}(hV:V.Fin)(hi:e0p ops y x=true)
 (h:I05 P Shp ops y.2 y.1 σ V λσ1 V1=>I05 P Shp ops x.2 x.1 σ1 V1 K):I05 P Shp ops x.2 x.1 σ V λσ1 V1=>I05 P Shp ops y.2 y.1 σ1 V1 K:=by
 unfold e0p at hi;simp only[By]at hi;obtain⟨hap,hc⟩:=hi;rcases b0m y.2 with hy|hy|hy|hy|hy|hy|hy<;>rcases b0m x.2 with hx|hx|hx|hx|hx|hx|hx<;>simp[hy,hx]at hc
 . refine Y13 hap hy hx ?_ h;rcases hc with h1|h1
   . exact .inl (λe=>by simp[e]at h1)
   exact .inr h1
 . exact H0w hap hy (.inl hx) h
 . exact H0w hap hy (.inr (.inl hx)) h
 . exact H0w hap hy (.inr (.inr hx)) h
 . exact Z13 hap hc.1 hx (λe=>by have h2:=hc.2; rw[e]at h2; simp at h2) h
 . exact a14 hap hy hx (λe=>by rw[e]at hc; simp at hc) h
 . exact I11 hV hap (.inl hy) hx h
 exact I11 hV hap (.inr hy) hx h
theorem J11{x:Oper×An}{s:List (Oper×An)}:∀ {p:List (Oper×An)} {σ:St} {V:View},V.Fin->(∀y∈p,e0p ops y x=true) ->
 O0f P Shp ops (p++x::s) σ V K->O0f P Shp ops (x::(p++s)) σ V K
 | [],_,_,_,_,h=>h
 | y::p,σ,V,hV,hp,h=>by
   have h1:I05 P Shp ops y.2 y.1 σ V λσ1 V1=>I05 P Shp ops x.2 x.1 σ1 V1 λσ2 V2=>O0f P Shp ops (p++s) σ2 V2 K :=
    f0p hV (λσ' V' hle hfin h'=>J11 (p:=p) hfin (λz hz=>hp z (by simp[hz])) h') h
   exact swap hV (hp y (by simp)) h1
end mono
def G0j(ops:Array Oper)(i:Nat):List Nat :=
 match ops[i]? with
 | some o=>(o.after.toList.filter λe=>Region.binds .any e).map (·.on)
 | none=>[]
def i08(ops:Array Oper)(canon:List (Nat×An)):List (Nat×(Oper×An)):=canon.map λ(i,an)=>(i,(ops.getD i default,an))
def K11(ops:Array Oper)(masks:List Nat)(i:Nat):Nat:=(G0j ops i).foldl (λs e=>s ||| (1 <<< e) ||| masks.getD e 0) 0
def n0t(ops:Array Oper)(masks:List Nat)(y x:Nat×(Oper×An)):Bool :=
 !(G0j ops y.1).contains x.1&&((masks.getD x.1 0).testBit y.1||e0p ops y.2 x.2)
def T0d{α:Type}(r:α->α->Bool):List α->Bool
 | []=>true
 | x::l=>l.all (r x)&&T0d r l
def o0t(ops:Array Oper)(canon:List (Nat×An))(masks:List Nat):Bool :=
 Nat.beq canon.length ops.size&&T0d (λa b => !(Nat.beq a b)) (canon.map (·.1))&&canon.all (λp=>Nat.blt p.1 ops.size) &&
 (List.range ops.size).all (λi=>(canon.map (·.1)).contains i) &&
 (List.range ops.size).all (λi=>(G0j ops i).all (λe=>Nat.blt e ops.size && !(Nat.beq e i))&&Nat.beq (masks.getD i 0) (K11 ops masks i)) &&
 T0d (n0t ops masks) (i08 ops canon)
theorem e0c{α:Type}{r:α->α->Bool}:∀ {l:List α},T0d r l=true->l.Pairwise (λa b=>r a b=true)
 | [],_ => .nil
 | x::l,h=>by
   simp only[T0d,By,Bk9]at h;exact .cons (λy hy=>h.1 y hy) (e0c h.2)
theorem Y0c(masks:List Nat)(y:Nat):∀(l:List Nat) (s:Nat),(l.foldl (λs e=>s ||| (1 <<< e) ||| masks.getD e 0) s).testBit y=true ->
 s.testBit y=true\/∃e∈l,y=e\/(masks.getD e 0).testBit y=true
 | [],s,h => .inl h
 | e::l,s,h=>by
   simp only[List.foldl_cons]at h;rcases Y0c masks y l _ h with h1|⟨e',he',h1⟩
   . rw[Nat.testBit_or,Nat.testBit_or,Gg,Gg]at h1;rcases h1 with(h1|h1)|h1
     . exact .inl h1
     . refine .inr ⟨e,by simp,.inl ?_⟩;rw[Nat.one_shiftLeft,Nat.testBit_two_pow]at h1;simpa using Eq.symm (Ak h1)
     exact .inr ⟨e,by simp,.inr h1⟩
   exact .inr ⟨e',by simp[he'],h1⟩
structure M11 (ops:Array Oper) (canon:List (Nat×An)) (masks:List Nat) (listed:Array Bool) (L:List (Nat×(Oper×An))):Prop where
 size:listed.size=ops.size
 sub:L.Sublist (i08 ops canon)
 iff:∀i,i<ops.size->(listed.getD i false=true↔i∉L.map (·.1))
 clos:∀i,listed.getD i false=true->∀y,(masks.getD i 0).testBit y=true->listed.getD y false=true
section draw
variable {P:Program} {Shp:l04} {ops:Array Oper} {canon:List (Nat×An)} {masks:List Nat} {B:List (Nat×Nat)} {w0:Base} {K:St->View->Prop} {Q:Exit->Act->World->Prop}
theorem H0j(h:o0t ops canon masks=true):canon.length=ops.size/\(canon.map (·.1)).Nodup/\(∀i,i<ops.size->i∈canon.map (·.1))/\(∀i,i∈canon.map (·.1)->i<ops.size) /\
 (∀i,i<ops.size->∀e∈G0j ops i,e<ops.size/\e≠i)/\(∀i,i<ops.size->masks.getD i 0=K11 ops masks i) /\
 (i08 ops canon).Pairwise (λy x=>n0t ops masks y x=true):=by
 simp only[o0t,By,Bk9]at h;obtain⟨⟨⟨⟨⟨hz,h0⟩,h1⟩,h2⟩,h3⟩,h4⟩:=h;refine⟨Aj hz,?_,λi hi=>by simpa using h2 i (by simpa using hi),?_,λi hi e he => ?_,λi hi=>Aj (h3 i (by simpa using hi)).2,e0c h4⟩
 . exact(e0c h0).imp (λ{a b} hab=>by rintro rfl; simp at hab)
 . intro i hi;obtain⟨p,hp,rfl⟩:=Bc.1 hi;have:=h1 p hp;simpa [Nat.blt_eq]using this
 have:=(h3 i (by simpa using hi)).1 e he;simp only[De]at this;exact⟨by simpa [Nat.blt_eq]using this.1,by rintro rfl; simp at this⟩
theorem g0p{α:Type}{x:α}:∀ {l:List α},x∈l->∃p s,l=p++x::s
 | y::l,h=>by
   rcases Bq.1 h with rfl|h
   . exact⟨[],l,rfl⟩
   obtain⟨p,s,rfl⟩:=g0p h;exact⟨y::p,s,rfl⟩
theorem I0j{listed:Array Bool}{i:Nat}:i∈Region.ready .any ops listed↔i<ops.size/\listed.getD i true=false/\∀e∈G0j ops i,listed.getD e false=true:=by
 simp only[Region.ready,Gf,List.mem_range,By,De];constructor
 . rintro⟨h1,h2,h3⟩;refine⟨h1,h2,?_⟩;intro e he;simp only[G0j,Bw h1,Bc,Gf]at he;obtain⟨ed,⟨hed,hb⟩,rfl⟩:=he;simp only[Bw h1,Aw,Dj,Array.all_eq_true']at h3;have:=h3 ed (by simpa using hed);simpa [hb]using this
 rintro⟨h1,h2,h3⟩;refine⟨h1,h2,?_⟩;simp only[Bw h1,Aw,Dj,Array.all_eq_true'];intro ed hed;by_cases hb:Region.binds .any ed=true
 . have:=h3 ed.on (by
     simp only[G0j,Bw h1,Bc,Gf];exact⟨ed,⟨by simpa using hed,hb⟩,rfl⟩)
   simp[this]
 simp[hb]
theorem I0u(hok:o0t ops canon masks=true)(hK:∀σ' V' a' w' addr',Conc B w0 σ' V' a' w' addr'->K σ' V'->Q .normal a' w') :
 ∀(fuel:Nat) (listed:Array Bool) (L:List (Nat×(Oper×An))) (σ:St) (V:View) (a:Act) (w:World) (addr:Nat->Nat),
  Conc B w0 σ V a w addr->M11 ops canon masks listed L->L.length<=fuel->O0f P Shp ops (L.map (·.2)) σ V K->wpAny P .any ops Q fuel listed a w:=by
 obtain⟨_,hnd,hall,hlt,hpr,hmask,hpw⟩:=H0j hok;have hnone:∀ {listed:Array Bool} {L:List (Nat×(Oper×An))},M11 ops canon masks listed L->Region.ready .any ops listed=[]->L=[]:=by
  intro listed L hL hr;cases L with
  | nil=>rfl
  | cons x l =>
    exfalso;have hx:x∈i08 ops canon:=hL.sub.subset (by simp);have hxi:x.1<ops.size:=by
     obtain⟨p,hp,rfl⟩:=Bc.1 hx;exact hlt p.1 (Bc.2 ⟨p,hp,rfl⟩)
    have hxl:listed.getD x.1 false=false:=by
     cases hb:listed.getD x.1 false with
     | false=>rfl
     | true=>exact absurd (Bc.2 ⟨x,by simp,rfl⟩) ((hL.iff _ hxi).1 hb)
    have hsz:x.1<listed.size:=by rw[hL.size]; exact hxi
    have:x.1∈Region.ready .any ops listed:=by
     rw[I0j];refine⟨hxi,?_,λe he => ?_⟩
     . simpa [Ai,hsz]using hxl
     obtain⟨he1,he2⟩:=hpr _ hxi e he;cases hb:listed.getD e false with
     | true=>rfl
     | false =>
       exfalso;have:e∈(x::l).map (·.1):=by
        rcases Decidable.em (e∈(x::l).map (·.1))with h|h
        . exact h
        rw[(hL.iff e he1).2 h]at hb; simp at hb
       rcases Bq.1 this with h|h
       . exact he2 h
       obtain⟨z,hz,rfl⟩:=Bc.1 h;have:=(List.pairwise_cons.1 (hpw.sublist hL.sub)).1 z hz;simp only[n0t,By,De]at this;have h2:=this.1;simp[he]at h2
    rw[hr]at this; simp at this
 intro fuel
 induction fuel with
 | zero =>
   intro listed L σ V a w addr hc hL hlen h;have hL0:L=[]:=Dc.1 (by omega);subst hL0;refine⟨?_,hK _ _ _ _ _ hc h⟩;rw[List.eq_nil_iff_forall_not_mem];intro i hi;obtain⟨h1,h2,_⟩:=I0j.1 hi;have:=(hL.iff i h1).2 (by simp);have hsz:i<listed.size:=by rw[hL.size]; exact h1
   simp[Ai,hsz]at this h2;rw[this]at h2; simp at h2
 | succ fuel ih =>
   intro listed L σ V a w addr hc hL hlen h;refine⟨λhr => ?_,λi hi => ?_⟩
   . have hL0:=hnone hL hr;subst hL0;exact hK _ _ _ _ _ hc h
   obtain⟨h1,h2,h3⟩:=I0j.1 hi;have hsz:i<listed.size:=by rw[hL.size]; exact h1
   have hun:listed.getD i false=false:=by
    simpa [Ai,hsz]using h2
   have hmem:i∈L.map (·.1):=by
    rcases Decidable.em (i∈L.map (·.1))with h|h
    . exact h
    rw[(hL.iff i h1).2 h]at hun; simp at hun
   obtain⟨x,hx,hxi⟩:=Bc.1 hmem;obtain⟨p,s,rfl⟩:=g0p hx;have hxo:ops[i]?=some x.2.1:=by
    have:x∈i08 ops canon:=hL.sub.subset hx;obtain⟨q,hq,rfl⟩:=Bc.1 this;simp only at hxi ⊢;subst hxi;simp[Ai,h1]
   have hind:∀y∈p.map (·.2),e0p ops y x.2=true:=by
    intro y' hy';obtain⟨y,hy,rfl⟩:=Bc.1 hy';have hpwL:=hpw.sublist hL.sub;have hyx:=(List.pairwise_append.1 hpwL).2.2 y hy x (by simp);simp only[n0t,By,Gg]at hyx;rcases hyx.2 with hm|hm
    . exfalso;have hy1:y.1<ops.size:=by
       have:y∈i08 ops canon:=hL.sub.subset (by simp[hy]);obtain⟨q,hq,rfl⟩:=Bc.1 this;exact hlt q.1 (Bc.2 ⟨q,hq,rfl⟩)
      rw[hxi,hmask i h1]at hm;have hyl:listed.getD y.1 false=true:=by
       rcases Y0c masks y.1 _ _ hm with h0|⟨e,he,h0|h0⟩
       . simp at h0
       . rw[h0]; exact h3 e he
       exact hL.clos e (h3 e he) y.1 h0
      exact(hL.iff y.1 hy1).1 hyl (Bc.2 ⟨y,by simp[hy],rfl⟩)
    exact hm
   have hb:=J11 (p:=p.map (·.2)) (x:=x.2) (s:=s.map (·.2)) hc.vin.fin hind (by simpa using h);simp only[wpOp,hxo];refine z0j (K:=λσ1 V1=>O0f P Shp ops ((p++s).map (·.2)) σ1 V1 K) hc (λσ' V' a' w' addr' hle hc' hk => ?_) (by simpa [O0f]using hb);refine ih _ (p++s) σ' V' a' w' addr' hc' ?_ (by simp at hlen ⊢; omega) hk;have hset:∀j,j<ops.size->((listed.setIfInBounds i true).getD j false=true↔j=i\/listed.getD j false=true):=by
    intro j hj;have hj':j<listed.size:=by rw[hL.size]; exact hj
    by_cases e:i=j
    . subst e; simp[Ai,hj']
    have e':¬j=i:=λh=>e h.symm
    simp[Ai,Array.getElem?_setIfInBounds_ne e,e']
   have hndL:((p++x::s).map (·.1)).Nodup:=by
    have:((i08 ops canon).map (·.1))=canon.map (·.1):=by simp[i08]
    exact(this▸hnd:((i08 ops canon).map (·.1)).Nodup).sublist (hL.sub.map _)
   refine⟨by simpa using hL.size,?_,λj hj => ?_,λj hj y hy => ?_⟩
   . exact List.Sublist.trans (by simp) hL.sub
   . rw[hset j hj,hL.iff j hj];simp only[Er,Go9,Cb,Bq,hxi];simp only[Er,Go9,List.nodup_append,List.nodup_cons,hxi]at hndL;constructor
     . rintro(rfl|h)
       . rintro(h|h)
         . exact hndL.2.2 _ h _ (by simp) rfl
         exact hndL.2.1.1 h
       rintro(h'|h')
       . exact h (.inl h')
       exact h (.inr (.inr h'))
     intro h;by_cases e:j=i
     . exact .inl e
     refine .inr ?_;rintro(h'|h'|h')
     . exact h (.inl h')
     . exact e h'
     exact h (.inr h')
   have hlj:j<ops.size:=by
     rcases Ad j ops.size with h|h
     . exact h
     have:(listed.setIfInBounds i true).size<=j:=by simp[hL.size]; exact h
     simp[Ai,Au this]at hj
   have hylist:listed.getD y false=true\/y=i:=by
    rcases (hset j hlj).1 hj with rfl|hj
    . rw[hmask j h1]at hy;rcases Y0c masks y _ _ hy with h0|⟨e,he,h0|h0⟩
      . simp at h0
      . rw[h0]; exact .inl (h3 e he)
      exact .inl (hL.clos e (h3 e he) y h0)
    exact .inl (hL.clos j hj y hy)
   have hylt:y<ops.size:=by
    rcases hylist with h|h
    . rcases Ad y ops.size with h'|h'
      . exact h'
      have:listed.size<=y:=by rw[hL.size]; exact h'
      simp[Ai,Au this]at h
    rw[h]; exact h1
   rw[hset y hylt];exact hylist.symm
end draw
