/- Part. -/
import Derived.Test.YtjadnpidefnpoaaGreatVcB
namespace Go.Vc
open Go Go.RowKit
def St.setOwn(σ:St)(id:Nat)(ob:Option OB):St:={ σ with own:=σ.own.set id ob }
theorem m00{σ:St}{rt:Nat}{b:Option OB}(h:σ.own[rt]?=some b):σ.setOwn rt b=σ:=by
 unfold St.setOwn;congr 1;apply Cw;intro i;rw[As];split
 . rename_i e; subst e;split
   . exact h.symm
   rename_i hlt; rw[Ab (by omega)]
 rfl
theorem N02{σ:St}{rt:Nat}{b:Option OB}(h:σ.own[rt]?=some b):σ.own.getD rt none=b:=by simp[List.getD,h]
theorem s0h(z:Array Value)(c:Nat):(madeCells z (c*z.toList.length)).toList=(List.replicate c z.toList).flatten:=by
 have hz:z.toList.length=z.size:=Eb9
 induction c with
 | zero=>simp[madeCells]
 | succ c ih =>
   rw[Ec,List.flatten_cons,<-ih];apply Cw;intro j;simp only[madeCells,Array.toList_map,Array.toList_range,Cd,Bp,hz];by_cases hj:j<z.size
   . have hj2:j<(c+1)*z.size:=by rw[Ci]; omega
     simp[hj,hj2,Bx9 hj]
   simp only[hj,At9];have hz0:0<z.size\/z.size=0:=by omega
   rcases hz0 with hz0|hz0
   . have e:j%z.size=(j-z.size)%z.size:=by rw[Nat.mod_eq_sub_mod (by omega)]
     by_cases hj2:j<(c+1)*z.size
     . have hj3:j-z.size<c*z.size:=by rw[Ci]at hj2; omega
       simp[hj2,hj3,e]
     have hj3:¬j-z.size<c*z.size:=by rw[Ci]at hj2; omega
     rw[Ab (by simp; omega),Ab (by simp; omega)]
   simp[hz0]
theorem L0b(z:Array Value)(c:Nat):madeCells z (c*z.toList.length)=((List.replicate c z.toList).flatten).toArray:=by
 apply Bv;rw[s0h]
def Does(P:Program)(o:Oper)(B:List (Nat×Nat))(w0:Base)(V:View)(a:Act)(w:World)(σ':St)(s:SV):Prop :=
 ∃x nx w' addr',(execOp a.eval o).run P w = .ok nx w'/\(nx = .value x\/(nx = .skip/\x=undef))/\Conc B w0 σ' V a w' addr'/\Rel addr' σ'.own s x
theorem P0l{σ:St}{addr own}{a:Act}{o:Oper}(hs:j0g o.op=false)
 (hall:o.op.operands.toList.all (λx=>(σ.ev x).asVal.isSome)=true) (hev:∀x,Rel addr own (σ.ev x) (a.eval x)) :
 execOp a.eval o=execOp (rho σ.ev) o:=by
 refine execOp_congr o ?_ ?_
 . intro cs b e; rw[e]at hs; simp[j0g]at hs
 intro x hx;have:=Bk9.1 hall x (by simpa using hx);cases hv:(σ.ev x).asVal with
 | none=>simp[hv]at this
 | some v=>rw[(hev x).asVal hv]; simp[rho,hv]
theorem w0j{P:Program}{fl:Nat}{o:Oper}{B w0 σ V a w addr}{k:SV->Prop}(hc:Conc B w0 σ V a w addr)
 (h:gen P fl o σ.ev k):∃s,k s/\Does P o B w0 V a w σ s:=by
 unfold gen at h;split at h
 . rename_i hs hall;split at h
   . rename_i v hv;refine⟨_,h,v,_,w,addr,?_,.inl rfl,hc,rfl⟩;rw[P0l hs hall hc.eval];exact E0z P _ _ w hv
   exact h.elim
 . rename_i hs hall;obtain⟨v,hv,hk⟩:=h;refine⟨_,hk,v,_,w,addr,?_,.inl rfl,hc,rfl⟩;rw[P0l hs hall hc.eval];exact hv w
 exact h.elim
theorem Conc.newBlk{B w0 σ V a w addr}(hc:Conc B w0 σ V a w addr){rt:Nat}(hrt:σ.own[rt]?=some none)(ob:OB)(arr:Array Value)
 (hb:X06 addr σ.own ob.cs arr) (hnr:kind (some ob)≠3:=by simp) :
 Conc B w0 (σ.setOwn rt (some ob)) V a (w.alloc (.cells arr ob.ty)) (λi=>if i=rt then w.heap.size else addr i) /\
 (∀id,kind (σ.own.getD id none)≠0->kind ((σ.setOwn rt (some ob)).own.getD id none)=kind (σ.own.getD id none)/\(if id=rt then w.heap.size else addr id)=addr id):=by
 have hlt:rt<σ.own.length:=by
  rcases Ad rt σ.own.length with h|h
  . exact h
  rw[Ab h]at hrt; simp at hrt
 have hne:∀id ob',σ.own.getD id none=some ob'->id≠rt:=by
  rintro id ob' h rfl; simp[List.getD,hrt]at h
 have hget:∀id,(σ.setOwn rt (some ob)).own.getD id none=if id=rt then some ob else σ.own.getD id none:=by
  intro id;simp only[St.setOwn,List.getD,As];by_cases e:rt=id
  . subst e; simp[hlt]
  have e':¬id=rt:=λx=>e x.symm
  simp[e,e']
 have hmono:∀id,kind (σ.own.getD id none)≠0->kind ((σ.setOwn rt (some ob)).own.getD id none)=kind (σ.own.getD id none)/\(if id=rt then w.heap.size else addr id)=addr id:=by
  intro id h;have hs:∃ob',σ.own.getD id none=some ob':=by
   cases e:σ.own.getD id none with
   | none=>rw[e]at h; exact absurd rfl h
   | some ob'=>exact⟨ob',rfl⟩
  obtain⟨ob',h'⟩:=hs;have:=hne _ _ h';rw[hget,if_neg this,if_neg this];exact⟨rfl,rfl⟩
 have hltw:∀id ob',σ.own.getD id none=some ob'->ob'.cs.real->addr id<w.heap.size:=by
  intro id ob' h hre;obtain⟨arr',hw,_⟩:=hc.blk id ob' h hre;rcases Ad (addr id) w.heap.size with h|h
  . exact h
  rw[Au h]at hw; simp at hw
 refine⟨⟨hc.size,by simp[St.setOwn,hc.osize],λi hi=>Gy hmono (hc.rel i hi),hc.defers,?_,?_,?_,?_,?_,?_,?_,hc.fresh,?_⟩,hmono⟩
 . intro id ob' h hre;rw[hget]at h;split at h
   . rename_i e; cases h;exact⟨arr,by simp only[e,Az]; exact heap_alloc_new _ _,Gz hmono hb⟩
   rename_i e;obtain⟨arr',hw,hb'⟩:=hc.blk id ob' h hre;have:=hltw _ _ h hre;exact⟨arr',by simp only[e,At9]; rw[heap_alloc_old _ _ _ this]; exact hw,Gz hmono hb'⟩
 . intro id ob' h hre;rw[hget]at h;split at h
   . rename_i e; simp only[e,Az]; exact .inl hc.below.size
   rename_i e; simp only[e,At9]; exact hc.lo id ob' h hre
 . intro p hp;obtain⟨h1,h2⟩:=hc.lent p hp;have:=hmono p.1 (by omega);exact⟨by rw[<-h1]; exact this.2,by rw[this.1]; exact h2⟩
 . intro id ob' h hre;rw[hget]at h;split at h
   . rename_i e; simp only[e,Az];cases hv:V w.heap.size with
     | none=>rfl
     | some cs=>obtain⟨T,fr,hw⟩:=hc.vin _ _ hv; simp at hw
   rename_i e; simp only[e,At9]; exact hc.out id ob' h hre
 . intro id id' ob1 ob2 h1 h2 hr1 hr2 he;rw[hget]at h1 h2;by_cases e1:id=rt<;>by_cases e2:id'=rt
   . exact e1.trans e2.symm
   . simp only[e1,e2,Az,At9]at he h2;have:=hltw _ _ h2 hr2; omega
   . simp only[e1,e2,Az,At9]at he h1;have:=hltw _ _ h1 hr1; omega
   simp only[e1,e2,At9]at he h1 h2;exact hc.inj _ _ _ _ h1 h2 hr1 hr2 he
 . intro b cs hb';obtain⟨T,fr,hw⟩:=hc.vin b cs hb';refine⟨T,fr,?_⟩;have:b<w.heap.size:=by
    rcases Ad b w.heap.size with h|h
    . exact h
    rw[Au h]at hw; simp at hw
   rw[heap_alloc_old _ _ _ this]; exact hw
 . exact hc.below.alloc _
 refine hc.reg.step (λid ty m h => ?_) (λb hb' _=>heap_alloc_old _ _ _ hb') (λb cs h => .inl h) (λid ob' h hre => ?_)
 . rw[hget]at h;split at h
   . exact absurd (N0l h) hnr
   exact h
 rw[hget]at h;split at h
 . rename_i e; simp only[e,Az]; exact .inr (An9 _)
 rename_i e; simp only[e,At9]; exact .inl ⟨id,ob',h,hre,rfl⟩
theorem Conc.wrBlk{B w0 σ V a w addr}(hc:Conc B w0 σ V a w addr){rt:Nat}{ob:OB}(hrt:σ.own[rt]?=some (some ob))(hre0:ob.cs.real)(cs:Cs)(hkd:kind (some ⟨ob.ty,cs⟩)=kind (some ob))(arr:Array Value)
 (hb:X06 addr σ.own cs arr) :
 Conc B w0 (σ.setOwn rt (some ⟨ob.ty,cs⟩)) V a (w.setRow (addr rt) arr) addr:=by
 have hlt:rt<σ.own.length:=by
  rcases Ad rt σ.own.length with h|h
  . exact h
  rw[Ab h]at hrt; simp at hrt
 have hg:=N02 hrt;have hget:∀id,(σ.setOwn rt (some ⟨ob.ty,cs⟩)).own.getD id none=if id=rt then some ⟨ob.ty,cs⟩else σ.own.getD id none:=by
  intro id;simp only[St.setOwn,List.getD,As];by_cases e:rt=id
  . subst e; simp[hlt]
  have e':¬id=rt:=λx=>e x.symm
  simp[e,e']
 have hmono:∀id,kind (σ.own.getD id none)≠0->kind ((σ.setOwn rt (some ⟨ob.ty,cs⟩)).own.getD id none)=kind (σ.own.getD id none)/\addr id=addr id:=by
  intro id h;rw[hget]; split
  . rename_i e; subst e; rw[hg]; exact⟨hkd,rfl⟩
  exact⟨rfl,rfl⟩
 have hsome:∀id ob',(σ.setOwn rt (some ⟨ob.ty,cs⟩)).own.getD id none=some ob'->ob'.cs.real->∃ob'',σ.own.getD id none=some ob''/\ob''.cs.real:=by
  intro id ob' h hre;rw[hget]at h;split at h
  . rename_i e; exact⟨ob,e▸hg,hre0⟩
  exact⟨_,h,hre⟩
 obtain⟨arr0,hw0,_⟩:=hc.blk rt ob hg hre0;refine⟨hc.size,by simp[St.setOwn,hc.osize],λi hi=>Gy hmono (hc.rel i hi),hc.defers,?_,?_,?_,?_,?_,?_,?_,hc.fresh,?_⟩
 . intro id ob' h hre;rw[hget]at h;split at h
   . rename_i e; cases h; subst e;exact⟨arr,setRow_heap w _ arr0 arr _ _ hw0,Gz hmono hb⟩
   rename_i e;obtain⟨arr',hw,hb'⟩:=hc.blk id ob' h hre;refine⟨arr',?_,Gz hmono hb'⟩;rw[setRow_other]
   . exact hw
   intro he; exact e (hc.inj _ _ _ _ h hg hre hre0 he)
 . intro id ob' h hre;obtain⟨ob'',h'',hre''⟩:=hsome _ _ h hre;exact hc.lo id ob'' h'' hre''
 . intro p hp;obtain⟨h1,h2⟩:=hc.lent p hp;exact⟨h1,by rw[(hmono _ (by omega)).1]; exact h2⟩
 . intro id ob' h hre;obtain⟨ob'',h'',hre''⟩:=hsome _ _ h hre;exact hc.out id ob'' h'' hre''
 . intro id id' ob1 ob2 h1 h2 hr1 hr2 he;obtain⟨_,h1',hr1'⟩:=hsome _ _ h1 hr1;obtain⟨_,h2',hr2'⟩:=hsome _ _ h2 hr2;exact hc.inj _ _ _ _ h1' h2' hr1' hr2' he
 . intro b cs' hb';obtain⟨T,fr,hw⟩:=hc.vin b cs' hb';refine⟨T,fr,?_⟩;rw[setRow_other]
   . exact hw
   rintro rfl;have:=hc.out rt ob hg hre0;rw[this]at hb'; simp at hb'
 . have hb:=hc.below;refine⟨hb.os,hb.tape,hb.output,by simpa using hb.size,λk hk hn => ?_⟩;rw[setRow_other]
   . exact hb.block k hk hn
   rintro rfl;rcases hc.lo rt ob hg hre0 with h|h
   . omega
   exact hn (Ff _ h)
 refine hc.reg.step (λid ty m h => ?_) (λb _ hno=>setRow_other _ _ _ _ λe=>hno rt ob hg hre0 e.symm) (λb cs h => .inl h) (λid ob' h hre => ?_)
 . rw[hget]at h;split at h
   . have:=N0l h; rw[hkd]at this; exact absurd this (n0w hre0)
   exact h
 obtain⟨ob'',h'',hre''⟩:=hsome _ _ h hre;exact .inl ⟨id,ob'',h'',hre'',rfl⟩
theorem U05{P:Program}{t e:TypeId}(h:X0a P t=some e):P.underlying t=some (.slice e):=by
 unfold X0a at h; split at h<;>simp_all
theorem Q0l{P:Program}{o B w0 σ V a w addr cells n}(hc:Conc B w0 σ V a w addr)(h:k0g P o σ.ev=some (cells,n)) :
 ∃e,(∀t m parts,o.op = .buildSlice t m parts->X0a P t=some e)/\(execOp a.eval o).run P w = .ok (.value (.slice (some ⟨w.heap.size,0,none⟩) n n)) (w.alloc (.cells cells e)):=by
 unfold k0g at h;split at h
 . rename_i t n parts hop;split at h
   . rename_i e he;split at h
     . rename_i zs sz hzs hsz hall;split at h
       . rename_i cells' hle hlen hfill;simp only[Ay,Fd9]at h;obtain⟨rfl,rfl⟩:=h;refine⟨e,λt' m' parts' hop'=>by rw[hop]at hop'; cases hop'; exact he,?_⟩;have hle:=Dv hle;have hlen:=Aj hlen;obtain⟨z,hz,hzl⟩:=O0l hzs w;have hparts:(parts.map λ(i,x)=>(i,a.eval x)).toList=parts.toList.map λp=>(p.1,rho σ.ev p.2):=by
          rw[Array.toList_map];refine Ch λp hp => ?_;have:=Bk9.1 hall p hp;obtain⟨v,hv⟩:=Co.1 this;simp[(hc.eval p.2).asVal hv,rho,hv]
         have hmade:(Array.range (n*sz)).map (z.cells[·%z.cells.size]!)=(List.replicate n zs).flatten.toArray:=by
          have:=L0b z.cells n;rw[hzl,hlen]at this;exact this
         have hgt:¬(16777216<n*sz):=by omega
         by_cases h0:n*sz=0
         . have hm0:(List.replicate n zs).flatten.toArray=#[]:=by rw[<-hmade,h0]; simp
           rw[hm0]at hfill;simp only[execOp,hop,Instr.buildSlice,Sem.run_bind,run_underlying (U05 he),Result.andThen_ok,X05 hsz];simp only[hparts];simp[h0,hfill,newRow,Array.range_zero']
         simp only[execOp,hop,Instr.buildSlice,Sem.run_bind,run_underlying (U05 he),Result.andThen_ok,X05 hsz];simp only[hparts];simp[hgt,h0,hz,hmade,hfill,newRow]
       simp at h
     simp at h
   simp at h
 simp at h
theorem q0w{P:Program}{Shp V rt o B w0 σ a w addr k}(hc:Conc B w0 σ V a w addr)
 (h:c0c P Shp V rt o σ.ev σ.own[rt]? k):∃s ob,k s ob/\Does P o B w0 V a w (σ.setOwn rt ob) s:=by
 unfold c0c at h;split at h
 . rename_i t hop hblk;split at h
   . rename_i zs hzs;obtain⟨z,hz,hzl⟩:=O0l hzs w;have hb:X06 addr σ.own (.fixed (zs.map .val)) z.cells:=by
      subst hzl;refine⟨by simp,λi hi => ?_⟩;simp only[Bt,Eb9]at hi;simp[List.getD,Rel,hi,Ai]
     obtain⟨hc',_⟩:=hc.newBlk hblk ⟨t,.fixed (zs.map .val)⟩ z.cells hb;refine⟨_,_,h,.pointer (some ⟨w.heap.size,0,none⟩),_,_,_,?_,.inl rfl,hc',?_⟩
     . simp only[execOp,hop,Instr.alloc,Sem.run_bind,hz,Result.andThen_ok,newVar,newRow,run_newObj,Sem.run_pure,World.alloc_eq]
     simp only[Rel,St.setOwn,List.getD,As,Az];have hlt:rt<σ.own.length:=by
      rcases Ad rt σ.own.length with h|h
      . exact h
      rw[Ab h]at hblk; simp at hblk
     simp[hlt]
   exact h.elim
 . rename_i t x hop hblk;split at h
   . rename_i hx;have hr:=hc.eval x;have hb:X06 addr σ.own (.fixed (S01 (σ.ev x))) (a.eval x).cells:=by
      generalize σ.ev x=s at *;generalize a.eval x=y at *;cases s with
      | val v =>
        simp only[Rel]at hr; subst hr;refine⟨by simp[S01],λi hi => ?_⟩;simp only[S01,Bt,Eb9]at hi;simp[S01,List.getD,Rel,hi,Ai]
      | any=>simp[j0i]at hx
      | tlst _ _ _ _=>simp[j0i]at hx
      | lit b=>simp only[Rel]at hr; subst hr; refine⟨by simp[S01,Value.cells],λi hi => ?_⟩; simp[S01]at hi; subst hi; simp[S01,Value.cells,Rel]
      | own id off =>
        have hr':=hr;simp only[Rel]at hr; rw[hr.2]; refine⟨by simp[S01,Value.cells],λi hi => ?_⟩; simp[S01]at hi; subst hi; rw[hr.2]at hr'; simpa [S01,Value.cells]using hr'
      | osl id off len cap =>
        have hr':=hr;simp only[Rel]at hr; rw[hr.2]; refine⟨by simp[S01,Value.cells],λi hi => ?_⟩; simp[S01]at hi; subst hi; rw[hr.2]at hr'; simpa [S01,Value.cells]using hr'
      | clo f ids =>
        have hr':=hr;simp only[Rel]at hr; rw[hr.2]; refine⟨by simp[S01,Value.cells],λi hi => ?_⟩; simp[S01]at hi; subst hi; rw[hr.2]at hr'; simpa [S01,Value.cells]using hr'
      | lst id n cap =>
        have hr':=hr;simp only[Rel]at hr; rw[hr.2]; refine⟨by simp[S01,Value.cells],λi hi => ?_⟩; simp[S01]at hi; subst hi; rw[hr.2]at hr'; simpa [S01,Value.cells]using hr'
      | les id n cap =>
        have hr':=hr;simp only[Rel]at hr; rw[hr.2]; refine⟨by simp[S01,Value.cells],λi hi => ?_⟩; simp[S01]at hi; subst hi; rw[hr.2]at hr'; simpa [S01,Value.cells]using hr'
     obtain⟨hc',_⟩:=hc.newBlk hblk ⟨t,.fixed (S01 (σ.ev x))⟩ _ hb;refine⟨_,_,h,.pointer (some ⟨w.heap.size,0,none⟩),_,_,_,?_,.inl rfl,hc',?_⟩
     . simp only[execOp,hop,Instr.box,Sem.run_bind,Result.andThen_ok,newVar,newRow,run_newObj,Sem.run_pure,World.alloc_eq]
     simp only[Rel,St.setOwn,List.getD,As,Az];have hlt:rt<σ.own.length:=by
      rcases Ad rt σ.own.length with h|h
      . exact h
      rw[Ab h]at hblk; simp at hblk
     simp[hlt]
   exact h.elim
 . rename_i t n c hop hblk;split at h
   . rename_i e kn ln kc cp he hn hcp;split at h
     . rename_i zs sz bs hzs hsz hbs;obtain⟨⟨h0,h1,h2,h3⟩,h⟩:=h;split at h
       . rename_i hlen;have hlen:zs.length=sz:=Aj hlen;have ht:P.underlying t=some (.slice e):=by
          unfold X0a at he; split at he<;>simp_all
         unfold B0d at hzs;cases hi:P.info? e with
         | none=>simp[hi]at hzs
         | some i =>
           cases hz:i.zero with
           | none=>simp[hi,hz]at hzs
           | some z =>
             simp only[hi,hz,Fu,Aw,Ay]at hzs;simp only[Q07,hi,Aw,Ay]at hsz;simp only[i0i,hi,Aw,Ay]at hbs;subst hsz; subst hbs; subst hzs;have hrn:=hc.eval n;have hrc:=hc.eval c;rw[hn]at hrn; rw[hcp]at hrc;simp only[Rel]at hrn hrc;have hrun:=run_make (P:=P) w t e i z ht hi hz kn kc ln cp h0 h1 h2 h3;have hb:X06 addr σ.own (.dyn (List.replicate cp.toNat z.cells.toList).flatten) (madeCells z.cells (cp.toNat*i.size)):=by
              simp only[X06];rw[<-hlen];exact L0b _ _
             obtain⟨hc',_⟩:=hc.newBlk hblk ⟨e,.dyn (List.replicate cp.toNat z.cells.toList).flatten⟩ _ hb;refine⟨_,_,h,.slice (some ⟨w.heap.size,0,none⟩) ln.toNat cp.toNat,_,_,_,?_,.inl rfl,hc',?_⟩
             . simp only[execOp,hop,hrn,hrc,Sem.run_bind,hrun,Result.andThen_ok,Sem.run_pure]
             simp only[Rel,St.setOwn,List.getD,As,Az];have hlt:rt<σ.own.length:=by
              rcases Ad rt σ.own.length with h|h
              . exact h
              rw[Ab h]at hblk; simp at hblk
             simp[hlt]
       exact h.elim
     exact h.elim
   exact h.elim
 . rename_i t n parts hop hblk;split at h
   . rename_i e cells m he hC;obtain⟨e2,he2,hrun⟩:=Q0l hc hC;have hee:=he2 t n parts hop;rw[he]at hee;cases hee;obtain⟨hc',_⟩:=hc.newBlk hblk ⟨e,.list cells.toList⟩ cells (by simp[X06]);refine⟨_,_,h,.slice (some ⟨w.heap.size,0,none⟩) m m,_,_,_,hrun,.inl rfl,hc',?_⟩;simp only[Rel,St.setOwn,List.getD,As,Az];have hlt:rt<σ.own.length:=by
      rcases Ad rt σ.own.length with h|h
      . exact h
      rw[Ab h]at hblk; simp at hblk
     simp[hlt]
   exact h.elim
 exact h.elim
theorem k12{addr own}{i:Nat}{s s':SV}{x:Value}(h:exS i s=some s')(hr:Rel addr own s x):∃vs v,x = .tuple vs/\vs[i]?=some v/\Rel addr own s' v:=by
 unfold exS at h;split at h
 . rename_i id n cap rest;obtain⟨hk,hx⟩:=hr;split at h
   . cases h;exact⟨_,_,hx,by simp,hk,rfl⟩
   rename_i j;obtain⟨v,hv,rfl⟩:=Bg.1 h;exact⟨_,v,hx,by simpa using hv,rfl⟩
 simp at h
theorem k0u{P:Program}{Shp V rt o B w0 σ a w addr k}(hc:Conc B w0 σ V a w addr)
 (h:J07 P Shp V rt o σ.ev σ.own[rt]? k):∃s ob,k s ob/\Does P o B w0 V a w (σ.setOwn rt ob) s:=by
 unfold J07 at h;split at h
 . rename_i x hop;split at h
   . rename_i b hb;refine⟨_,_,h,a.eval x,_,w,addr,?_,.inl rfl,?_,?_⟩
     . simp only[execOp,hop]; rfl
     . rw[m00 hb]; exact hc
     rw[m00 hb]; exact hc.eval x
   exact h.elim
 . rename_i x hop;split at h
   . rename_i b hb;refine⟨_,_,h,a.eval x,_,w,addr,?_,.inl rfl,?_,?_⟩
     . simp only[execOp,hop]; rfl
     . rw[m00 hb]; exact hc
     rw[m00 hb]; exact hc.eval x
   exact h.elim
 . rename_i c x y hop;split at h
   . rename_i bl hb hcond;have hr:=hc.eval c;rw[hcond]at hr;simp only[Rel]at hr;refine⟨_,_,h,a.eval x,_,w,addr,?_,.inl rfl,?_,?_⟩
     . simp only[execOp,hop,hr,asBool,Sem.run_bind,Sem.run_pure,Result.andThen_ok,Az]
     . rw[m00 hb]; exact hc
     rw[m00 hb]; exact hc.eval x
   . rename_i bl hb hcond;have hr:=hc.eval c;rw[hcond]at hr;simp only[Rel]at hr;refine⟨_,_,h,a.eval y,_,w,addr,?_,.inl rfl,?_,?_⟩
     . simp[execOp,hop,hr,asBool,Sem.run_pure]
     . rw[m00 hb]; exact hc
     rw[m00 hb]; exact hc.eval y
   exact h.elim
 . rename_i x i hop;split at h
   . rename_i bl s hb hs;obtain⟨vs,v,hx,hv,hr⟩:=k12 hs (hc.eval x);refine⟨_,_,h,v,_,w,addr,?_,.inl rfl,?_,?_⟩
     . simp only[execOp,hop,hx,Instr.extract,hv,Sem.run_bind,Sem.run_pure,Result.andThen_ok]
     . rw[m00 hb]; exact hc
     rw[m00 hb]; exact hr
   exact h.elim
 exact h.elim
theorem m0g(b off j:Nat):(⟨b,off,none⟩:Addr).add j=⟨b,off+j,none⟩:=by
 unfold Addr.add; split<;>simp_all
theorem p09:∀ {l:List SV} {vs:List Value},S07 l=some vs->vs.length=l.length/\∀(j:Nat) (v:Value),vs[j]?=some v->∃s:SV,l[j]?=some s/\s.asVal=some v
 | [],vs,h=>by simp[S07]at h; subst h; simp
 | .val v::l,vs,h=>by
   simp only[S07]at h;split at h
   . rename_i vs' hvs; cases h;have ih:=p09 hvs;refine⟨by simp[ih.1],λj x hx => ?_⟩;cases j with
     | zero=>simp at hx; subst hx; exact⟨.val v,by simp,rfl⟩
     | succ j=>simpa using ih.2 j x (by simpa using hx)
   simp at h
 | .lit b::l,vs,h=>by
   simp only[S07]at h;split at h
   . rename_i vs' hvs; cases h;have ih:=p09 hvs;refine⟨by simp[ih.1],λj x hx => ?_⟩;cases j with
     | zero=>simp at hx; subst hx; exact⟨.lit b,by simp,rfl⟩
     | succ j=>simpa using ih.2 j x (by simpa using hx)
   simp at h
 | .own _ _::_,_,h | .osl _ _ _ _::_,_,h | .clo _ _::_,_,h | .any::_,_,h=>by simp[S07]at h
theorem n0g{w:World}{b off:Nat}{arr:Array Value}{T:TypeId}{fr:Nat×Nat}(h:w.heap[b]?=some (.cells arr T fr)){j:Nat}{v:Value}
 (hv:arr[off+j]?=some v):w.cell? ((⟨b,off,none⟩:Addr).add j)=some v:=by
 rw[m0g];simp[World.cell?,h,hv]
theorem n07{P:Program}{w:World}{t:TypeId}{a:Addr}{cs:List Value}(ha:q0n P t=some true)(hs:Q07 P t=some cs.length)
 (h:∀j v,cs[j]?=some v->w.cell? (a.add j)=some v):(loadVar t a).run P w = .ok (.agg cs.toArray) w:=by
 have hl:=run_loadCells_list (P:=P) w a cs h;simp only[loadVar,Sem.run_bind,u0j ha,Result.andThen_ok,Az,X05 hs,hl,Sem.run_pure]
theorem B08{P:Program}{w:World}{t:TypeId}{a:Addr}{v:Value}(ha:q0n P t=some false)
 (h:w.cell? a=some v):(loadVar t a).run P w = .ok v w:=by
 simp[loadVar,Sem.run_bind,u0j ha,run_load,h]
theorem l0u{P:Program}{Shp V rt o B w0 σ a w addr k}(hc:Conc B w0 σ V a w addr)
 (h:x08 P Shp V rt o σ.ev σ.own[rt]? k):∃s ob,k s ob/\Does P o B w0 V a w (σ.setOwn rt ob) s:=by
 unfold x08 at h;split at h
 . rename_i t p ob hop hblk;have hg:=N02 hblk;have hre:ob.cs.real:=by
    cases hcs:ob.cs with
    | fixed l=>trivial
    | dyn l=>trivial
    | list l => exfalso; rw [hcs] at h; revert h; repeat' split
                all_goals simp_all
    | reg l =>
      exfalso; rw[hcs]at h; revert h; repeat' split
      all_goals simp_all
   obtain⟨arr,hw,hba⟩:=hc.blk rt ob hg hre;have hr:=hc.eval p;split at h
   . rename_i id off hp;rw[hp]at hr;simp only[Rel]at hr;have hin:∀ {v s},(loadVar t ⟨addr rt,off,none⟩).run P w = .ok v w->id=rt->Rel addr σ.own s v ->
      Does P o B w0 V a w (σ.setOwn rt (some ob)) s:=by
      intro v s hv hid hs;refine⟨v,_,w,addr,?_,.inl rfl,?_,?_⟩
      . subst hid;simp only[execOp,hop,Instr.loadAt,hr.2,Instr.sureAddr,Sem.run_bind,Sem.run_pure,Result.andThen_ok,hv]
      . rw[m00 hblk]; exact hc
      rw[m00 hblk]; exact hs
     split at h
     . rename_i n l hid ha hs hcs;have hid:=Aj hid;rw[hcs]at hba;split at h
       . rename_i vs hvs hle;have hle:=Dv hle;obtain⟨hlen,hget⟩:=p09 hvs;have hn:vs.length=n:=by rw[hlen]; simp; omega
         refine⟨_,_,h,hin (n07 ha (by rw[hn]; exact hs) ?_) hid rfl⟩;intro j v hv;obtain⟨s,hs1,hs2⟩:=hget j v hv;have hj:j<n:=by
          rcases Ad j vs.length with h|h
          . omega
          rw[Ab h]at hv; simp at hv
         have hs1':l[off+j]?=some s:=by
          rw[Bo hj,Da]at hs1; exact hs1
         have hlt:off+j<l.length:=by omega
         have hrel:=hba.2 (off+j) hlt;have e1:l.getD (off+j) .any=s:=by simp[List.getD,hs1']
         rw[e1]at hrel;have:=hrel.asVal hs2;refine n0g hw ?_;rw[Bw (by rw[hba.1]; exact hlt)];rw[<-this];have h2:off+j<arr.size:=by rw[hba.1]; exact hlt
         simp[Ai,h2]
       exact h.elim
     . rename_i l hid ha hcs;have hid:=Aj hid;rw[hcs]at hba;split at h
       . rename_i s hs;have hlt:off<l.length:=by
          rcases Ad off l.length with h|h
          . exact h
          rw[Ab h]at hs; simp at hs
         have hrel:=hba.2 off hlt;have e1:l.getD off .any=s:=by simp[List.getD,hs]
         rw[e1]at hrel;have h2:off<arr.size:=by rw[hba.1]; exact hlt
         refine⟨_,_,h,hin (v:=arr.getD off undef) (B08 ha ?_) hid hrel⟩;have:=n0g (j:=0) (off:=off) hw (v:=arr.getD off undef) (by simp[Ai,h2]);simpa [Addr.add]using this
       exact h.elim
     . rename_i l hid ha hcs;have hid:=Aj hid;rw[hcs]at hba;obtain⟨x,hx,h⟩:=h;simp only[X06]at hba;subst hba;refine⟨_,_,h,hin (B08 ha ?_) hid rfl⟩;have:=n0g (j:=0) (off:=off) hw (v:=(Shp t).val x) (by simpa using hx);simpa [Addr.add]using this
     . rename_i n l hid ha hs hcs;have hid:=Aj hid;rw[hcs]at hba;obtain⟨x,hx,h⟩:=h;simp only[X06]at hba;subst hba;split at h
       . rename_i cs hval;split at h
         . rename_i hsz;have hsz:=Aj hsz;rw[hval]at hx;simp only[Value.cells]at hx;refine⟨_,_,h,hin (v := .agg cs) ?_ hid rfl⟩;have:=n07 (P:=P) (w:=w) (t:=t) (a:=⟨addr rt,off,none⟩) (cs:=cs.toList) ha (by simp[hsz,hs]) ?_
           . simpa using this
           intro j v hv;refine n0g hw ?_;rw[<-hx]at hv;have hj:j<n:=by
            rcases Ad j n with h|h
            . exact h
            rw[Ab (by simp; omega)]at hv; simp at hv
           rw[Bo hj,Da]at hv;simpa using hv
         exact h.elim
       exact h.elim
     exact h.elim
   exact h.elim
 exact h.elim
theorem s0w{P:Program}{Shp V rt o B w0 σ a w addr k}(hc:Conc B w0 σ V a w addr)
 (h:y08 P Shp V rt o σ.ev σ.own[rt]? k):∃s ob,k s ob/\Does P o B w0 V a w (σ.setOwn rt ob) s:=by
 unfold y08 at h;split at h
 . rename_i t p b hop hblk;have hr:=hc.eval p;split at h
   . rename_i pa hp;rw[hp]at hr;simp only[Rel]at hr;have hin:∀ {v s A},pa=some A->(loadVar t A).run P w = .ok v w->Rel addr σ.own s v ->
      Does P o B w0 V a w (σ.setOwn rt b) s:=by
      intro v s A hA hv hs;refine⟨v,_,w,addr,?_,.inl rfl,?_,?_⟩
      . subst hA;simp only[execOp,hop,Instr.loadAt,hr,Instr.sureAddr,Sem.run_bind,Sem.run_pure,Result.andThen_ok,hv]
      . rw[m00 hblk]; exact hc
      rw[m00 hblk]; exact hs
     split at h
     . rename_i n ha hs;obtain⟨x,hx,hsome,h⟩:=h;obtain⟨A,rfl⟩:=Co.1 hsome;split at h
       . rename_i cs hval;split at h
         . rename_i hsz;have hsz:=Aj hsz;rw[hval]at hx;simp only[Value.cells]at hx;refine⟨_,_,h,hin (v := .agg cs) rfl ?_ rfl⟩;have:=n07 (P:=P) (w:=w) (t:=t) (a:=A) (cs:=cs.toList) ha (by simp[hsz,hs]) (λj v hv=>N04 hc.vin (hx j v hv));simpa using this
         exact h.elim
       exact h.elim
     . rename_i ha;obtain⟨x,hx,h⟩:=h;cases pa with
       | none=>simp[View.load]at hx
       | some A=>exact⟨_,_,h,hin rfl (B08 ha (N04 hc.vin hx)) rfl⟩
     exact h.elim
   exact h.elim
 . rename_i src dst x b hop hblk;have hr:=hc.eval x;split at h
   . rename_i A len cap e hx he hst;rw[hx]at hr;simp only[Rel]at hr;split at h
     . rename_i hu;obtain⟨bs,hbs,hlen,hsome,hk⟩:=h;obtain⟨A,rfl⟩:=Co.1 hsome;subst hlen;have hd:P.underlying dst=some .string:=by unfold strQ at hst; split at hst<;>simp_all
       have hu8:P.underlying e=some (.int .u8):=by unfold u8Q at hu; split at hu<;>simp_all
       have hrun:=run_convert_bytes_back (P:=P) w src dst e A cap bs (U05 he) hu8 hd (λj hj=>N04 hc.vin (hbs j _ (by simp[hj,Q13])));refine⟨_,_,hk,.string ⟨bs.toArray⟩,_,w,addr,?_,.inl rfl,?_,?_⟩
       . simp only[execOp,hop,hr,Sem.run_bind,hrun,Result.andThen_ok,Sem.run_pure]
       . rw[m00 hblk]; exact hc
       rw[m00 hblk]; rfl
     exact h.elim
   exact h.elim
 exact h.elim
theorem S13{y:Value}{n:Nat}(h:y.cells.toList.length=n):y.cells.size=n:=by simpa using h
theorem t0h{α:Type}:∀(vs l:List α) (off:Nat),off+vs.length<=l.length->setL l off vs=l.take off++vs++l.drop (off+vs.length)
 | [],l,off,_=>by simp[setL]
 | v::vs,l,off,h=>by
   simp only[Db]at h;rw[setL,t0h vs (l.set off v) (off+1) (by simp; omega)];apply Cw;intro j;have ht:(List.take (off+1) (l.set off v)).length=off+1:=by simp; omega
   have ht':(List.take off l).length=off:=by simp; omega
   simp only[Cq9,Bp,ht,ht',Db];by_cases h1:j<off
   . have:j<off+1:=by omega
     simp only[h1,this,Az];rw[Bo this,Bo h1,Cr (by omega)]
   by_cases h2:j=off
   . subst h2;have h3:j<j+1:=by omega
     simp only[h1,h3,Az,At9];rw[Bo h3];have h4:j<l.length:=by omega
     simp[h4]
   have h3:¬j<off+1:=by omega
   simp only[h1,h3,At9];have e1:j-off=(j-(off+1))+1:=by omega
   rw[e1];simp only[Fv,Nat.add_lt_add_iff_right];have e2:j-off-(vs.length+1)=j-(off+1)-vs.length:=by omega
   by_cases h5:j-(off+1)<vs.length
   . rw[if_pos h5,if_pos h5]
   rw[if_neg h5,if_neg h5,Da,Da,Cr (by omega)];congr 1;omega
theorem S0l{addr own}{s:SV}{y:Value}(hr:Rel addr own s y)(hx:j0i s=true) :
 X06 addr own (.fixed (S01 s)) y.cells:=by
 cases s with
 | val v =>
   simp only[Rel]at hr; subst hr;refine⟨by simp[S01],λi hi => ?_⟩;simp only[S01,Bt,Eb9]at hi;simp[S01,List.getD,Rel,hi,Ai]
 | any=>simp[j0i]at hx
 | tlst _ _ _ _=>simp[j0i]at hx
 | lit b=>simp only[Rel]at hr; subst hr; refine⟨by simp[S01,Value.cells],λi hi => ?_⟩; simp[S01]at hi; subst hi; simp[S01,Value.cells,Rel]
 | own id off =>
   have hr':=hr;simp only[Rel]at hr; rw[hr.2]; refine⟨by simp[S01,Value.cells],λi hi => ?_⟩; simp[S01]at hi; subst hi; rw[hr.2]at hr'; simpa [S01,Value.cells]using hr'
 | osl id off len cap =>
   have hr':=hr;simp only[Rel]at hr; rw[hr.2]; refine⟨by simp[S01,Value.cells],λi hi => ?_⟩; simp[S01]at hi; subst hi; rw[hr.2]at hr'; simpa [S01,Value.cells]using hr'
 | clo f ids =>
   have hr':=hr;simp only[Rel]at hr; rw[hr.2]; refine⟨by simp[S01,Value.cells],λi hi => ?_⟩; simp[S01]at hi; subst hi; rw[hr.2]at hr'; simpa [S01,Value.cells]using hr'
 | lst id n cap =>
   have hr':=hr;simp only[Rel]at hr; rw[hr.2]; refine⟨by simp[S01,Value.cells],λi hi => ?_⟩; simp[S01]at hi; subst hi; rw[hr.2]at hr'; simpa [S01,Value.cells]using hr'
 | les id n cap =>
   have hr':=hr;simp only[Rel]at hr; rw[hr.2]; refine⟨by simp[S01,Value.cells],λi hi => ?_⟩; simp[S01]at hi; subst hi; rw[hr.2]at hr'; simpa [S01,Value.cells]using hr'
theorem S0o{addr own}{s:SV}{y:Value}(hr:Rel addr own s y)(hg:s0n s=true):y.oneCell'=true:=by
 cases s with
 | val v=>simp only[Rel]at hr; subst hr; exact hg
 | lit b=>simp only[Rel]at hr; subst hr; rfl
 | own id off=>rw[hr.2]; rfl
 | osl id off len cap=>rw[hr.2]; rfl
 | clo f ids=>rw[hr.2]; rfl
 | lst id n cap=>rw[hr.2]; rfl
 | les id n cap=>rw[hr.2]; rfl
 | any=>simp[s0n]at hg
 | tlst _ _ _ _=>simp[s0n]at hg
theorem M0f{addr own}:∀ {l:List SV} {vs:List Value} {ys:List Value},S07 l=some vs->ys.length=l.length ->
 (∀i,i<l.length->Rel addr own (l.getD i .any) (ys.getD i undef))->ys=vs:=by
 intro l vs ys h hlen hr;obtain⟨h1,h2⟩:=p09 h;apply Cw;intro j;by_cases hj:j<l.length
 . have e:vs[j]?=some (vs[j]'(by omega)):=Ae _;obtain⟨s,hs,hv⟩:=h2 j _ e;have:=hr j hj;have e1:l.getD j .any=s:=by simp[List.getD,hs]
   rw[e1]at this;have:=this.asVal hv;rw[e,<-this];have hy:j<ys.length:=by omega
   simp[List.getD,hy]
 rw[Ab (by omega),Ab (by omega)]
theorem q0r{P:Program}{Shp V rt o B w0 σ a w addr k}(hc:Conc B w0 σ V a w addr)
 (h:Y07 P Shp V rt o σ.ev σ.own[rt]? k):∃s ob,k s ob/\Does P o B w0 V a w (σ.setOwn rt ob) s:=by
 unfold Y07 at h;split at h
 . rename_i t p x ob hop hblk;have hg:=N02 hblk;have hre:ob.cs.real:=by
    cases hcs:ob.cs with
    | fixed l=>trivial
    | dyn l=>trivial
    | list l => exfalso; rw [hcs] at h; revert h; repeat' split
                all_goals simp_all
    | reg l =>
      exfalso; rw[hcs]at h; revert h; repeat' split
      all_goals simp_all
   obtain⟨arr,hw,hba⟩:=hc.blk rt ob hg hre;have hrp:=hc.eval p;have hrx:=hc.eval x;split at h
   . rename_i id off n hp hs;rw[hp]at hrp;simp only[Rel]at hrp;have hrun:∀l':List SV,True->(S01 (σ.ev x)).all s0n=true->(S01 (σ.ev x)).length=n->id=rt->off+n<=arr.size ->
      (execOp a.eval o).run P w = .ok .skip (w.setRow (addr rt) (arr.toList.take off++(a.eval x).cells.toList++arr.toList.drop (off+n)).toArray) /\
      (a.eval x).cells.toList.length=n/\(∀i,i<(S01 (σ.ev x)).length->Rel addr σ.own ((S01 (σ.ev x)).getD i .any) ((a.eval x).cells.toList.getD i undef)):=by
      intro _ _ hgood hlen hid hle;have hne:j0i (σ.ev x)=true:=by
       cases hx:σ.ev x<;>first|rfl|(rw[hx]at hgood; simp[S01,s0n]at hgood)
      have hcr:=S0l hrx hne;have hl:(a.eval x).cells.toList.length=n:=by rw[Eb9,hcr.1,hlen]
      have hrel:∀i,i<(S01 (σ.ev x)).length->Rel addr σ.own ((S01 (σ.ev x)).getD i .any) ((a.eval x).cells.toList.getD i undef):=by
       intro i hi;have:=hcr.2 i hi;simpa [List.getD,Ai]using this
      refine⟨?_,hl,hrel⟩;have h1:∀v∈(a.eval x).cells.toList,v.oneCell'=true:=by
       intro v hv;obtain⟨i,hi,rfl⟩:=Gn hv;have hi':i<(S01 (σ.ev x)).length:=by omega
       have hgi:=Bk9.1 hgood ((S01 (σ.ev x))[i]) (Ax _);have:=hrel i hi';simp only[List.getD,Ae hi,Ae hi',Dj]at this;exact S0o this hgi
      have hst:=run_storeCells_at P (addr rt) off ob.ty (a.eval x).cells.toList 0 arr w hw (by rw[hl]; simpa using hle) h1;have hsz:(a.eval x).cells.size=n:=by simpa using hl
      subst hid;simp only[Dm,hl]at hst;simp[execOp,hop,Instr.storeAt,hrp.2,Instr.sureAddr,Sem.run_bind,storeVar,X05 hs,hsz,hst]
     split at h
     . rename_i l hid hcs;have hid:=Aj hid;rw[hcs]at hba;split at h
       . rename_i hgood hlen hle;have hlen:=Aj hlen;have hle:=Dv hle;obtain⟨hr1,hl,hrel⟩:=hrun l trivial hgood hlen hid (by rw[hba.1]; exact hle);refine⟨_,_,h,undef,_,_,addr,hr1,.inr ⟨rfl,rfl⟩,hc.wrBlk hblk hre (.fixed (setL l off (S01 (σ.ev x)))) (by obtain⟨ty,cs⟩:=ob; simp only at hcs; subst hcs; rfl) _ ?_,trivial⟩;rw[t0h _ _ _ (by omega)];have hal:arr.toList.length=l.length:=by simp[hba.1]
         refine⟨by simp[hba.1,hlen,S13 hl],λi hi => ?_⟩;rw[Be,Be,Dk,Fw]at hi;have hoff:(List.take off l).length=off:=by simp; omega
         have hoff':(List.take off arr.toList).length=off:=by simp[hba.1]; omega
         simp only[List.getD,Ai,Ey,Cq9,Bp,hoff,hoff',hlen,hl];by_cases h1:i<off
         . simp only[h1,Az];rw[Bo h1,Bo h1];have:=hba.2 i (by omega);simpa [List.getD,Ai]using this
         simp only[h1,At9];by_cases h2:i-off<n
         . simp only[h2,Az];have:=hrel (i-off) (by omega);simpa [List.getD]using this
         simp only[h2,At9];rw[Da,Da];have:=hba.2 (off+n+(i-off-n)) (by omega);simpa [List.getD,Ai]using this
       exact h.elim
     . rename_i l hid hcs;have hid:=Aj hid;rw[hcs]at hba;simp only[X06]at hba;split at h
       . rename_i vs hgood hlen hvs;obtain⟨hle,h⟩:=h;have hlen:=Aj hlen;have hsz:arr.size=l.length:=by rw[hba]; simp
         obtain⟨hr1,hl,hrel⟩:=hrun [] trivial hgood hlen hid (by omega);refine⟨_,_,h,undef,_,_,addr,hr1,.inr ⟨rfl,rfl⟩,hc.wrBlk hblk hre (.dyn (setL l off vs)) (by obtain⟨ty,cs⟩:=ob; simp only at hcs; subst hcs; rfl) _ ?_,trivial⟩;have hv:(a.eval x).cells.toList=vs:=M0f hvs (by omega) hrel;have hvl:vs.length=n:=by rw[<-hv]; exact hl
         rw[t0h _ _ _ (by omega),hba,hv,hvl];rfl
       exact h.elim
     exact h.elim
   exact h.elim
 exact h.elim
theorem Conc.wrReg{B w0 σ V a w addr}(hc:Conc B w0 σ V a w addr){rt:Nat}{ty:TypeId}{m:View}(hrt:σ.own[rt]?=some (some ⟨ty,.reg m⟩)){b:Nat}{cs arr:Array Value}(hm:m b=some cs) :
 Conc B w0 (σ.setOwn rt (some ⟨ty,.reg (I00 m b arr)⟩)) V a (w.setRow b arr) addr:=by
 have hlt:rt<σ.own.length:=by
  rcases Ad rt σ.own.length with h|h
  . exact h
  rw[Ab h]at hrt; simp at hrt
 have hg:=N02 hrt;have hget:∀id,(σ.setOwn rt (some ⟨ty,.reg (I00 m b arr)⟩)).own.getD id none=if id=rt then some ⟨ty,.reg (I00 m b arr)⟩else σ.own.getD id none:=by
  intro id;simp only[St.setOwn,List.getD,As];by_cases e:rt=id
  . subst e; simp[hlt]
  have e':¬id=rt:=λx=>e x.symm
  simp[e,e']
 have hmono:∀id,kind (σ.own.getD id none)≠0->kind ((σ.setOwn rt (some ⟨ty,.reg (I00 m b arr)⟩)).own.getD id none)=kind (σ.own.getD id none)/\addr id=addr id:=by
  intro id h;rw[hget]; split
  . rename_i e; subst e; rw[hg]; exact⟨rfl,rfl⟩
  exact⟨rfl,rfl⟩
 have hsome:∀id ob',(σ.setOwn rt (some ⟨ty,.reg (I00 m b arr)⟩)).own.getD id none=some ob'->ob'.cs.real->σ.own.getD id none=some ob':=by
  intro id ob' h hre;rw[hget]at h;split at h
  . cases h; exact absurd hre (λh=>h)
  exact h
 obtain⟨⟨T,hT⟩,hlo,hV,hap⟩:=hc.reg.at_ rt ty m hg b cs hm;refine⟨hc.size,by simp[St.setOwn,hc.osize],λi hi=>Gy hmono (hc.rel i hi),hc.defers,?_,?_,?_,?_,?_,?_,?_,hc.fresh,⟨?_,?_⟩⟩
 . intro id ob' h hre;have h:=hsome id ob' h hre;obtain⟨arr',hw,hb'⟩:=hc.blk id ob' h hre;refine⟨arr',?_,Gz hmono hb'⟩;rw[setRow_other]
   . exact hw
   intro he; exact hap id ob' h hre he
 . intro id ob' h hre; exact hc.lo id ob' (hsome id ob' h hre) hre
 . intro p hp;obtain⟨h1,h2⟩:=hc.lent p hp;exact⟨h1,by rw[(hmono _ (by omega)).1]; exact h2⟩
 . intro id ob' h hre; exact hc.out id ob' (hsome id ob' h hre) hre
 . intro id id' ob1 ob2 h1 h2 hr1 hr2 he;exact hc.inj _ _ _ _ (hsome _ _ h1 hr1) (hsome _ _ h2 hr2) hr1 hr2 he
 . intro b' cs' hb';obtain⟨T',fr,hw⟩:=hc.vin b' cs' hb';refine⟨T',fr,?_⟩;rw[setRow_other]
   . exact hw
   rintro rfl; rw[hV]at hb'; simp at hb'
 . have hb:=hc.below;refine⟨hb.os,hb.tape,hb.output,by simpa using hb.size,λk hk hn => ?_⟩;rw[setRow_other]
   . exact hb.block k hk hn
   rintro rfl;rcases hlo with h|h
   . omega
   exact hn (Gj _ h.2)
 . intro id ty' m' h b' cs' hb';have key:∀cs0,m b'=some cs0->(∃T,w.heap[b']?=some (.cells cs0 T (0,0)))/\(w0.w.heap.size<=b'\/(ty=1/\b'∈w0.R))/\V b'=none/\∀i ob,σ.own.getD i none=some ob->ob.cs.real->addr i≠b':=λcs0 h0=>hc.reg.at_ rt ty m hg b' cs0 h0
   rw[hget]at h;split at h
   . cases h;by_cases e:b'=b
     . subst e;have hb':some arr=some cs':=by rw[<-hb']; simp[I00]
       cases hb';obtain⟨_,k2,k3,k4⟩:=key cs hm;exact⟨⟨T,setRow_heap w _ cs arr _ _ hT⟩,k2,k3,λi ob hi hr=>k4 i ob (hsome i ob hi hr) hr⟩
     have hb':m b'=some cs':=by rw[<-hb']; simp[I00,e]
     obtain⟨⟨T',k1⟩,k2,k3,k4⟩:=key cs' hb';exact⟨⟨T',by rw[setRow_other _ _ _ _ e]; exact k1⟩,k2,k3,λi ob hi hr=>k4 i ob (hsome i ob hi hr) hr⟩
   rename_i e;exact absurd (hc.reg.one _ _ _ _ _ _ h hg) e
 have hold:∀id ty' m',(σ.setOwn rt (some ⟨ty,.reg (I00 m b arr)⟩)).own.getD id none=some ⟨ty',.reg m'⟩->id=rt:=by
   intro id ty' m' h;rw[hget]at h;split at h
   . assumption
   exact hc.reg.one _ _ _ _ _ _ h hg
 intro id id' ty1 ty2 m1 m2 h1 h2;rw[hold _ _ _ h1,hold _ _ _ h2]
theorem t0w{P:Program}{Shp V rt o B w0 σ a w addr k}(hc:Conc B w0 σ V a w addr)
 (h:Z09 P Shp V rt o σ.ev σ.own[rt]? k):∃s ob,k s ob/\Does P o B w0 V a w (σ.setOwn rt ob) s:=by
 unfold Z09 at h;split at h
 . rename_i t p ty m hop hblk;have hg:=N02 hblk;have hm:View.In m w:=λb cs e=>by
    obtain⟨⟨T,hT⟩,_⟩:=hc.reg.at_ rt ty m hg b cs e;exact⟨T,_,hT⟩
   have hr:=hc.eval p;split at h
   . rename_i pa hp;rw[hp]at hr;simp only[Rel]at hr;have hin:∀ {v s A},pa=some A->(loadVar t A).run P w = .ok v w->Rel addr σ.own s v ->
      Does P o B w0 V a w (σ.setOwn rt (some ⟨ty,.reg m⟩)) s:=by
      intro v s A hA hv hs;refine⟨v,_,w,addr,?_,.inl rfl,?_,?_⟩
      . subst hA;simp only[execOp,hop,Instr.loadAt,hr,Instr.sureAddr,Sem.run_bind,Sem.run_pure,Result.andThen_ok,hv]
      . rw[m00 hblk]; exact hc
      rw[m00 hblk]; exact hs
     split at h
     . rename_i n ha hs;obtain⟨x,hx,hsome,h⟩:=h;obtain⟨A,rfl⟩:=Co.1 hsome;split at h
       . rename_i cs hval;split at h
         . rename_i hsz;have hsz:=Aj hsz;rw[hval]at hx;simp only[Value.cells]at hx;refine⟨_,_,h,hin (v := .agg cs) rfl ?_ rfl⟩;have:=n07 (P:=P) (w:=w) (t:=t) (a:=A) (cs:=cs.toList) ha (by simp[hsz,hs]) (λj v hv=>hx.elim (λhx=>N04 hm (hx j v hv)) (λhx=>N04 hc.vin (hx j v hv)));simpa using this
         exact h.elim
       exact h.elim
     . rename_i ha;obtain⟨x,hx,h⟩:=h;cases pa with
       | none=>simp[o09,View.load]at hx
       | some A=>exact⟨_,_,h,hin rfl (B08 ha (hx.elim (N04 hm) (N04 hc.vin))) rfl⟩
     exact h.elim
   exact h.elim
 exact h.elim
theorem m0u{P:Program}{Shp V rt o B w0 σ a w addr k}(hc:Conc B w0 σ V a w addr)
 (h:m09 P Shp V rt o σ.ev σ.own[rt]? k):∃s ob,k s ob/\Does P o B w0 V a w (σ.setOwn rt ob) s:=by
 unfold m09 at h;split at h
 . rename_i t p x ty m hop hblk;have hg:=N02 hblk;have hrp:=hc.eval p;have hrx:=hc.eval x;split at h
   . rename_i pa n hp hs;rw[hp]at hrp;simp only[Rel]at hrp;split at h
     . rename_i vs hgood hlen hvs;obtain⟨b,off,cs,rfl,hcs,hle,h⟩:=h;have hlen:=Aj hlen;obtain⟨⟨T,hT⟩,_⟩:=hc.reg.at_ rt ty m hg b _ hcs;have hne:j0i (σ.ev x)=true:=by
        cases hx:σ.ev x<;>first|rfl|(rw[hx]at hgood; simp[S01,s0n]at hgood)
       have hcr:=S0l hrx hne;have hl:(a.eval x).cells.toList.length=n:=by rw[Eb9,hcr.1,hlen]
       have hrel:∀i,i<(S01 (σ.ev x)).length->Rel addr σ.own ((S01 (σ.ev x)).getD i .any) ((a.eval x).cells.toList.getD i undef):=by
        intro i hi;have:=hcr.2 i hi;simpa [List.getD,Ai]using this
       have h1:∀v∈(a.eval x).cells.toList,v.oneCell'=true:=by
        intro v hv;obtain⟨i,hi,rfl⟩:=Gn hv;have hi':i<(S01 (σ.ev x)).length:=by omega
        have hgi:=Bk9.1 hgood ((S01 (σ.ev x))[i]) (Ax _);have:=hrel i hi';simp only[List.getD,Ae hi,Ae hi',Dj]at this;exact S0o this hgi
       have hst:=run_storeCells_at P b off T (a.eval x).cells.toList 0 cs.toArray w hT (by rw[hl]; simpa using hle) h1;have hsz:(a.eval x).cells.size=n:=by simpa using hl
       simp only[Dm,hl]at hst;have hrun:(execOp a.eval o).run P w = .ok .skip (w.setRow b (cs.take off++(a.eval x).cells.toList++cs.drop (off+n)).toArray):=by
        simp[execOp,hop,Instr.storeAt,hrp,Instr.sureAddr,Sem.run_bind,storeVar,X05 hs,hsz,hst]
       have hv:(a.eval x).cells.toList=vs:=M0f hvs (by omega) hrel;have hvl:vs.length=n:=by rw[<-hv]; exact hl
       refine⟨_,_,h,undef,_,_,addr,hrun,.inr ⟨rfl,rfl⟩,?_,trivial⟩;have:=hc.wrReg hblk (arr:=(cs.take off++(a.eval x).cells.toList++cs.drop (off+n)).toArray) hcs;rw[t0h _ _ _ (by omega),hvl,<-hv];exact this
     exact h.elim
   exact h.elim
 exact h.elim
theorem u0w{P:Program}{t n e:Nat}(h:arrQ P t=some (n,e)):P.underlying t=some (.array n e):=by
 unfold arrQ at h; split at h<;>simp_all
theorem q0c{P:Program}{w:World}{t e:TypeId}{sz:Nat}{a:Addr}{len cap:Nat}{k:IntKind}{n:Int}(he:X0a P t=some e)(hs:Q07 P e=some sz)
 (h:0<=n/\n<len):(Instr.indexAt t (.slice (some a) len cap) (.int k n)).run P w = .ok (.pointer (some (a.add (n.toNat*sz)))) w:=by
 simp[Instr.indexAt,asIntOf,underlying,U05 he,X05 hs,h]
theorem s0c{P:Program}{w:World}{t e:TypeId}{sz:Nat}{a:Addr}{len:Nat}{k:IntKind}{n:Int}(he:arrQ P t=some (len,e))(hs:Q07 P e=some sz)
 (h:0<=n/\n<len):(Instr.indexAt t (.pointer (some a)) (.int k n)).run P w = .ok (.pointer (some (a.add (n.toNat*sz)))) w:=by
 simp[Instr.indexAt,Instr.sureAddr,asIntOf,underlying,u0w he,X05 hs,h]
theorem x0j{P:Program}{w:World}{t e:TypeId}{sz:Nat}{a:Option Addr}{len cap:Nat}{lo hi:Option Value}{l h:Int}(he:X0a P t=some e)(hs:Q07 P e=some sz)
 (hlo:(lo=none/\l=0)\/∃k,lo=some (.int k l)) (hhi:(hi=none/\h=len)\/∃k,hi=some (.int k h)) (hb:0<=l/\l<=h/\h<=cap) :
 (Instr.sliceAt t (.slice a len cap) lo hi none).run P w = .ok (.slice (if cap=l.toNat then a else a.map (·.add (l.toNat*sz))) (h.toNat-l.toNat) (cap-l.toNat)) w:=by
 obtain⟨h0,h1,h2⟩:=hb;have h3:0<=h:=by omega
 have h4:l<=(h.toNat:Int):=by omega
 have h5:l<=max h 0:=by omega
 rcases hlo with⟨rfl,rfl⟩|⟨kl,rfl⟩<;>rcases hhi with⟨rfl,rfl⟩|⟨kh,rfl⟩ <;>
  simp[Instr.sliceAt,Instr.slice,Instr.sliceBounds,Instr.sliceBound,asIntOf,underlying,U05 he,X05 hs,h0,h1,h2,h3,h5]
theorem s0r{P:Program}{Shp V rt o B w0 σ a w addr k}(hc:Conc B w0 σ V a w addr)
 (h:H05 P Shp V rt o σ.ev σ.own[rt]? k):∃s ob,k s ob/\Does P o B w0 V a w (σ.setOwn rt ob) s:=by
 unfold H05 at h;split at h
 . rename_i s p f b hop hblk;have hrp:=hc.eval p;split at h
   . rename_i id off d hp hf;rw[hp]at hrp;simp only[Rel]at hrp;refine⟨_,_,h,.pointer (some ⟨addr id,off+d,none⟩),_,w,addr,?_,.inl rfl,?_,?_⟩
     . unfold o0w at hf;split at hf
       . rename_i fs hfs;split at hf
         . rename_i fd hfd;split at hf
           . simp at hf
           . rename_i n hsz hne;cases hf;have hn:n≠0:=by rintro rfl; exact hsz rfl
             simp[execOp,hop,Instr.fieldAt,underlying,hfs,hfd,hrp.2,Instr.sureAddr,fieldPlace,X05 hne,hn,m0g]
           simp at hf
         simp at hf
       simp at hf
     . rw[m00 hblk]; exact hc
     rw[m00 hblk]; exact⟨hrp.1,rfl⟩
   . rename_i pa d hp hf;rw[hp]at hrp;simp only[Rel]at hrp;obtain⟨hpa,h⟩:=h;obtain⟨A,rfl⟩:=Co.1 hpa;refine⟨_,_,h,.pointer (some (A.add d)),_,w,addr,?_,.inl rfl,?_,?_⟩
     . unfold o0w at hf;split at hf
       . rename_i fs hfs;split at hf
         . rename_i fd hfd;split at hf
           . simp at hf
           . rename_i n hsz hne;cases hf;have hn:n≠0:=by rintro rfl; exact hsz rfl
             simp[execOp,hop,Instr.fieldAt,underlying,hfs,hfd,hrp,Instr.sureAddr,fieldPlace,X05 hne,hn]
           simp at hf
         simp at hf
       simp at hf
     . rw[m00 hblk]; exact hc
     rw[m00 hblk]; rfl
   exact h.elim
 . rename_i t x i b hop hblk;have hrx:=hc.eval x;have hri:=hc.eval i;split at h
   . rename_i id off len cap kn n hx hi;rw[hx]at hrx; rw[hi]at hri;simp only[Rel]at hrx hri;split at h
     . rename_i e he;split at h
       . rename_i sz hsz;obtain⟨hb,h⟩:=h;refine⟨_,_,h,.pointer (some ⟨addr id,off+n.toNat*sz,none⟩),_,w,addr,?_,.inl rfl,?_,?_⟩
         . simp only[execOp,hop,hrx.2,hri,Sem.run_bind,q0c he hsz hb,Result.andThen_ok,Sem.run_pure,m0g]
         . rw[m00 hblk]; exact hc
         rw[m00 hblk]; exact⟨hrx.1,rfl⟩
       exact h.elim
     exact h.elim
   . rename_i id off kn n hx hi;rw[hx]at hrx; rw[hi]at hri;simp only[Rel]at hrx hri;split at h
     . rename_i len e he;split at h
       . rename_i sz hsz;obtain⟨hb,h⟩:=h;refine⟨_,_,h,.pointer (some ⟨addr id,off+n.toNat*sz,none⟩),_,w,addr,?_,.inl rfl,?_,?_⟩
         . simp only[execOp,hop,hrx.2,hri,Sem.run_bind,s0c he hsz hb,Result.andThen_ok,Sem.run_pure,m0g]
         . rw[m00 hblk]; exact hc
         rw[m00 hblk]; exact⟨hrx.1,rfl⟩
       exact h.elim
     exact h.elim
   . rename_i al len cap kn n hx hi;rw[hx]at hrx; rw[hi]at hri;simp only[Rel]at hrx hri;split at h
     . rename_i e he;split at h
       . rename_i sz hsz;obtain⟨⟨hb1,hb2,hsome⟩,h⟩:=h;obtain⟨A,rfl⟩:=Co.1 hsome;refine⟨_,_,h,.pointer (some (A.add (n.toNat*sz))),_,w,addr,?_,.inl rfl,?_,?_⟩
         . simp only[execOp,hop,hrx,hri,Sem.run_bind,q0c he hsz ⟨hb1,hb2⟩,Result.andThen_ok,Sem.run_pure]
         . rw[m00 hblk]; exact hc
         rw[m00 hblk]; rfl
       exact h.elim
     exact h.elim
   . rename_i p kn n hx hi;rw[hx]at hrx; rw[hi]at hri;simp only[Rel]at hrx hri;split at h
     . rename_i len e he;split at h
       . rename_i sz hsz;obtain⟨hb,h⟩:=h;refine⟨_,_,h,.pointer (some (p.add (n.toNat*sz))),_,w,addr,?_,.inl rfl,?_,?_⟩
         . simp only[execOp,hop,hrx,hri,Sem.run_bind,s0c he hsz hb,Result.andThen_ok,Sem.run_pure]
         . rw[m00 hblk]; exact hc
         rw[m00 hblk]; rfl
       exact h.elim
     exact h.elim
   exact h.elim
 . rename_i t x lo hi mx b hop hblk;have hrx:=hc.eval x;split at h
   . rename_i e he;split at h
     . rename_i sz id off len cap l hsz hx hl;rw[hx]at hrx;simp only[Rel]at hrx;split at h
       . rename_i hh hhi;obtain⟨⟨h0,h1,h2,h3⟩,h⟩:=h;refine⟨_,_,h,.slice (some ⟨addr id,off+l.toNat*sz,none⟩) (hh.toNat-l.toNat) (cap-l.toNat),_,w,addr,?_,.inl rfl,?_,?_⟩
         . have hlo:(lo.map a.eval=none/\l=0)\/∃k,lo.map a.eval=some (.int k l):=by
             cases lo with
             | none=>simp at hl; exact .inl ⟨rfl,hl.symm⟩
             | some y =>
               have hry:=hc.eval y;simp only at hl;split at hl
               . rename_i k n hy; cases hl; rw[hy]at hry; exact .inr ⟨k,by simp only[Aw]; rw[hry]⟩
               simp at hl
           have hhi':(hi.map a.eval=none/\hh=len)\/∃k,hi.map a.eval=some (.int k hh):=by
            cases hi with
            | none=>simp at hhi; exact .inl ⟨rfl,hhi.symm⟩
            | some y =>
              have hry:=hc.eval y;simp only at hhi;split at hhi
              . rename_i k n hy; cases hhi; rw[hy]at hry; exact .inr ⟨k,by simp only[Aw]; rw[hry]⟩
              simp at hhi
           have hcap:¬cap=l.toNat:=by omega
           simp only[execOp,hop,hrx.2,Option.map_none,Sem.run_bind,x0j he hsz hlo hhi' ⟨h0,h1,h2⟩,Result.andThen_ok,Sem.run_pure,hcap,At9,Aw,m0g]
         . rw[m00 hblk]; exact hc
         rw[m00 hblk]; exact⟨hrx.1,rfl⟩
       exact h.elim
     . rename_i sz al len cap l hsz hx hl;rw[hx]at hrx;simp only[Rel]at hrx;split at h
       . rename_i hh hhi;obtain⟨⟨h0,h1,h2⟩,h⟩:=h;refine⟨_,_,h,_,_,w,addr,?_,.inl rfl,?_,rfl⟩
         . have hlo:(lo.map a.eval=none/\l=0)\/∃k,lo.map a.eval=some (.int k l):=by
             cases lo with
             | none=>simp at hl; exact .inl ⟨rfl,hl.symm⟩
             | some y =>
               have hry:=hc.eval y;simp only at hl;split at hl
               . rename_i k n hy; cases hl; rw[hy]at hry; exact .inr ⟨k,by simp only[Aw]; rw[hry]⟩
               simp at hl
           have hhi':(hi.map a.eval=none/\hh=len)\/∃k,hi.map a.eval=some (.int k hh):=by
            cases hi with
            | none=>simp at hhi; exact .inl ⟨rfl,hhi.symm⟩
            | some y =>
              have hry:=hc.eval y;simp only at hhi;split at hhi
              . rename_i k n hy; cases hhi; rw[hy]at hry; exact .inr ⟨k,by simp only[Aw]; rw[hry]⟩
              simp at hhi
           simp only[execOp,hop,hrx,Option.map_none,Sem.run_bind,x0j he hsz hlo hhi' ⟨h0,h1,h2⟩,Result.andThen_ok,Sem.run_pure]
         rw[m00 hblk]; exact hc
       exact h.elim
     exact h.elim
   exact h.elim
 . rename_i c b hop hblk;split at h
   . rename_i x t hcal hargs htys;have hrx:=hc.eval x;split at h
     . rename_i id off len cap e hx he;rw[hx]at hrx;simp only[Rel]at hrx;obtain⟨callee,args,argTypes⟩:=c;simp only at hcal hargs htys;have h1:args=#[x]:=by apply Bv; simpa using hargs
       have h2:argTypes=#[t]:=by apply Bv; simpa using htys
       subst hcal; subst h1; subst h2;refine⟨_,_,h,.int .i64 len,_,w,addr,?_,.inl rfl,?_,?_⟩
       . simp[execOp,hop,resolve,invoke,builtin,Builtin.len_,underlying,U05 he,hrx.2,goInt]
       . rw[m00 hblk]; exact hc
       rw[m00 hblk]; rfl
     exact h.elim
   exact h.elim
 . rename_i f first caps b hop hblk
   split at h
   . rename_i p hfirst hcaps;have hrp:=hc.eval p;split at h
     . rename_i id hp;rw[hp]at hrp;simp only[Rel]at hrp;have hf0:first=#[]:=by apply Bv; simpa using hfirst
       have hc0:caps=#[p]:=by apply Bv; simpa using hcaps
       subst hf0; subst hc0;refine⟨_,_,h,.func (.func f) #[] #[.pointer (some ⟨addr id,0,none⟩)],_,w,addr,?_,.inl rfl,?_,?_⟩
       . simp[execOp,hop,Instr.makeFunc,hrp.2]
       . rw[m00 hblk]; exact hc
       rw[m00 hblk]; exact⟨by intro i hi; simp at hi; subst hi; exact hrp.1,by simp⟩
     exact h.elim
   exact h.elim
 exact h.elim
theorem l08{addr own}{σ:St}{a:Act}(hev:∀x,Rel addr own (σ.ev x) (a.eval x)):∀ {l:List Operand} {vs:List Value},Y09 σ.ev l=some vs->l.map a.eval=vs
 | [],vs,h=>by simp[Y09]at h; subst h; rfl
 | x::l,vs,h=>by
   simp only[Y09]at h;split at h
   . rename_i v vs' hv hvs;cases h;simp[(hev x).asVal hv,l08 hev hvs]
   simp at h
theorem G0z{P:Program}{w:World}{k k':FloatKind}{a c:Nat}(h:(k.format.order a c).isSome=true):(Builtin.max2 (.float k a) (.float k' c)).run P w = .ok (.float k (fmax k a c)) w:=by
 unfold Builtin.max2 fmax;cases ho:k.format.order a c with
 | none=>simp[ho]at h
 | some r=>cases r<;>simp[ho]
theorem H0z{P:Program}{w:World}{k k':FloatKind}{a c:Nat}(h:(k.format.order a c).isSome=true):(Builtin.min2 (.float k a) (.float k' c)).run P w = .ok (.float k (fmin k a c)) w:=by
 unfold Builtin.min2 fmin;cases ho:k.format.order a c with
 | none=>simp[ho]at h
 | some r=>cases r<;>simp[ho]
theorem T0o{P:Program}{w:World}{t e:TypeId}{sz:Nat}{a:Option Addr}{len cap:Nat}{lo:Option Value}{kh km:IntKind}{l h m:Int}(he:X0a P t=some e)(hs:Q07 P e=some sz)
 (hlo:(lo=none/\l=0)\/∃k,lo=some (.int k l)) (hb:0<=l/\l<=h/\h<=m/\m<=cap) :
 (Instr.sliceAt t (.slice a len cap) lo (some (.int kh h)) (some (.int km m))).run P w = .ok (.slice (if m.toNat=l.toNat then a else a.map (·.add (l.toNat*sz))) (h.toNat-l.toNat) (m.toNat-l.toNat)) w:=by
 obtain⟨h0,h1,h2,h3⟩:=hb;have h4:0<=h:=by omega
 have h5:0<=m:=by omega
 have h6:h<=(m.toNat:Int):=by omega
 have h7:h<=max m 0:=by omega
 have h8:l<=(h.toNat:Int):=by omega
 have h9:l<=max h 0:=by omega
 rcases hlo with⟨rfl,rfl⟩|⟨kl,rfl⟩ <;>
  simp[Instr.sliceAt,Instr.slice,Instr.sliceBounds,Instr.sliceBound,asIntOf,underlying,U05 he,X05 hs,h0,h1,h3,h4,h5,h7,h9]
theorem I0z{P:Program}{w:World}{src dst:TypeId}{s d:FloatKind}{a r:Nat}{ts:TypeDesc}(hs:P.underlying src=some ts)(hd:P.underlying dst=some (.float d))(h:cvtF s a d=some r) :
 (convert src dst (.float s a)).run P w = .ok (.float d r) w:=by
 have e:(Conv.floatToFloat s a d).run P w = .ok (.float d r) w:=by
  unfold cvtF at h;unfold Conv.floatToFloat;split at h
  . rename_i hk;have hk:=Ak hk;subst hk;cases h;rw[if_pos rfl]; rfl
  rename_i hk;have hk:=Al hk;rw[if_neg hk];split at h
  . cases h
  . rename_i g hg;cases h;rw[hg]; rfl
  rename_i g m e hg;rw[hg];split at h
  . cases h
  rename_i hi;cases h;simp only[hi,Fl,At9];rfl
 simp[convert,underlying,hs,hd,e]
theorem U0o{P:Program}{w:World}{t e:TypeId}{n sz:Nat}{p:Addr}(ha:arrQ P t=some (n+1,e))(hs:Q07 P e=some sz) :
 (Instr.sliceAt t (.pointer (some p)) none none none).run P w = .ok (.slice (some p) (n+1) (n+1)) w:=by
 have hu:P.underlying t=some (.array (n+1) e):=by unfold arrQ at ha; split at ha<;>simp_all
 simp[Instr.sliceAt,Instr.sliceBounds,Instr.sureAddr,underlying,hu,X05 hs];rfl
theorem n0u{P:Program}{Shp V rt o B w0 σ a w addr k}(hc:Conc B w0 σ V a w addr)
 (h:z08 P Shp V rt o σ.ev σ.own[rt]? k):∃s ob,k s ob/\Does P o B w0 V a w (σ.setOwn rt ob) s:=by
 unfold z08 at h;split at h
 . exact h.elim
 rename_i b hblk;have fin:∀ {v:Value},(execOp a.eval o).run P w = .ok (.value v) w->k (.val v) b->∃s ob,k s ob/\Does P o B w0 V a w (σ.setOwn rt ob) s:=by
  intro v hv hk;exact⟨_,_,hk,v,_,w,addr,hv,.inl rfl,by rw[m00 hblk]; exact hc,by rw[m00 hblk]; rfl⟩
 split at h
 . rename_i op t x y yt hop;have hx:=hc.eval x;have hy:=hc.eval y;split at h
   . rename_i kk a' k' c ex ey;rw[ex]at hx; rw[ey]at hy;simp only[Rel]at hx hy;refine fin ?_ h.2;have h0:¬c<0:=by omega
     simp[execOp,hop,eqGuard,hx,hy,binOp,Op.shift,h0]
   . rename_i kk a' k' c ex ey;rw[ex]at hx; rw[ey]at hy;simp only[Rel]at hx hy;refine fin ?_ h.2;have h0:¬c<0:=by omega
     simp[execOp,hop,eqGuard,hx,hy,binOp,Op.shift,h0]
   . rename_i kk a' k' c ex ey;rw[ex]at hx; rw[ey]at hy;simp only[Rel]at hx hy;split at h
     . rename_i hk;have hk:=Ak hk;subst hk;refine fin ?_ h.2;simp[execOp,hop,eqGuard,hx,hy,binOp,Op.intDiv,h.1]
     exact h.elim
   . rename_i kk a' k' c ex ey;rw[ex]at hx; rw[ey]at hy;simp only[Rel]at hx hy;split at h
     . rename_i hk;have hk:=Ak hk;subst hk;refine fin ?_ h.2;simp[execOp,hop,eqGuard,hx,hy,binOp,Op.intDiv,h.1]
     exact h.elim
   . rename_i kk a' k' c ex ey;rw[ex]at hx; rw[ey]at hy;simp only[Rel]at hx hy;split at h
     . rename_i hkk;have hkk:=Ak hkk;subst hkk;obtain⟨r,hr,hk⟩:=h;refine fin ?_ hk;simp[execOp,hop,eqGuard,hx,hy,binOp,Op.floatArith,hr]
     exact h.elim
   . rename_i kk a' k' c ex ey;rw[ex]at hx; rw[ey]at hy;simp only[Rel]at hx hy;split at h
     . rename_i hkk;have hkk:=Ak hkk;subst hkk;obtain⟨r,hr,hk⟩:=h;refine fin ?_ hk;simp[execOp,hop,eqGuard,hx,hy,binOp,Op.floatArith,hr]
     exact h.elim
   . rename_i s u ex ey;rw[ex]at hx; rw[ey]at hy;simp only[Rel]at hx hy;refine fin ?_ h.2;have h0:¬(IntKind.i64.max<((s.size+u.size:Nat):Int)):=by omega
     simp only[execOp,hop,eqGuard,hx,hy,binOp,Op.stringOp];have h1:(s.size:Int)+u.size<=9223372036854775807:=by
      have:=h.1;have hm:IntKind.i64.max=9223372036854775807:=by decide
      rw[hm]at this;simpa using this
     simp[h1]
   . rename_i s u ex ey;rw[ex]at hx; rw[ey]at hy;simp only[Rel]at hx hy;split at h
     . rename_i hg;obtain⟨c,hq,hk⟩:=h;refine fin ?_ hk;simp[execOp,hop,eqGuard,hx,hy,hg,hq w]
     exact h.elim
   . rename_i s u ex ey;rw[ex]at hx; rw[ey]at hy;simp only[Rel]at hx hy;split at h
     . rename_i hg;obtain⟨c,hq,hk⟩:=h;refine fin ?_ hk;simp[execOp,hop,eqGuard,hx,hy,hg,hq w]
     exact h.elim
   . rename_i sa sl sc ul uc ex ey;rw[ex]at hx; rw[ey]at hy;simp only[Rel]at hx hy;split at h
     . rename_i e he;refine fin ?_ h.2;have:=Lib.run_eql_slice_nil (P:=P) w t e sa sl sc ul uc (U05 he);simp[execOp,hop,eqGuard,hx,hy,this]
     exact h.elim
   exact h.elim
 . rename_i c hop;obtain⟨callee,args,argTypes⟩:=c;split at h
   . rename_i x y hcal hargs;simp only at hcal hargs;have h1:args=#[x,y]:=by apply Bv; simpa using hargs
     subst hcal; subst h1;have hx:=hc.eval x;have hy:=hc.eval y;split at h
     . rename_i kk a' k' c' ex ey;rw[ex]at hx; rw[ey]at hy;simp only[Rel]at hx hy;refine fin ?_ h.2;simp[execOp,hop,resolve,invoke,builtin,Builtin.max_,hx,hy,G0z h.1]
     exact h.elim
   . rename_i x y hcal hargs;simp only at hcal hargs;have h1:args=#[x,y]:=by apply Bv; simpa using hargs
     subst hcal; subst h1;have hx:=hc.eval x;have hy:=hc.eval y;split at h
     . rename_i kk a' k' c' ex ey;rw[ex]at hx; rw[ey]at hy;simp only[Rel]at hx hy;refine fin ?_ h.2;simp[execOp,hop,resolve,invoke,builtin,Builtin.min_,hx,hy,H0z h.1]
     exact h.elim
   . rename_i f hcal;simp only at hcal;subst hcal;split at h
     . rename_i vs t hvs hres;obtain⟨x,hx,hk⟩:=h;have hargs:args.map a.eval=vs.toArray:=by
        apply Bv;simpa using l08 hc.eval hvs
       refine fin ?_ hk;simp only[execOp,hop,resolve,hargs,Act.eval,Deferred.ofValue,Sem.run_bind,Sem.run_pure,Result.andThen_ok,invoke];simpa using hx w
     exact h.elim
   exact h.elim
 . rename_i t x ix hop;have hx:=hc.eval x;have hi:=hc.eval ix;split at h
   . rename_i s kk n hs ex ei;rw[ex]at hx; rw[ei]at hi;simp only[Rel]at hx hi;refine fin ?_ h.2;have hu:P.underlying t=some .string:=by unfold strQ at hs; split at hs<;>simp_all
     have hlt:n.toNat<s.data.size:=by
      have:=h.1.2;have e:s.size=s.data.size:=rfl;omega
     have hget:s[n.toNat]?=some (s.data[n.toNat]'hlt):=by
      have h1:n.toNat<s.size:=hlt;rw[getElem?_pos s n.toNat h1]; rfl
     simp[execOp,hop,Instr.index,asIntOf,hx,hi,underlying,hu,h.1.1,hget,Q0o,List.getD];rw[Bw hlt]; rfl
   . rename_i cs kk n hs ex ei;rw[ex]at hx; rw[ei]at hi;simp only[Rel]at hx hi;split at h
     . rename_i len e hq;have hu:P.underlying t=some (.array len e):=by unfold arrQ at hq; split at hq<;>simp_all
       split at h
       . rename_i sz hg hsz;obtain⟨⟨h0,h1⟩,y,hy,h⟩:=h;split at h
         . rename_i ds hd;split at h
           . rename_i hbs;have hds:ds.size=sz:=Aj hbs;rw[hd]at hy;have hcs:cs.extract (n.toNat*sz) (n.toNat*sz+sz)=ds:=by
              apply Bv;rw[Array.toList_extract];have hy:List.take sz (List.drop (n.toNat*sz) cs.toList)=ds.toList:=hy;rw[<-hy,List.extract_eq_take_drop];congr 1; omega
             refine fin ?_ h;have hlt:n<(len:Int):=h1;simp[execOp,hop,Instr.index,asIntOf,hx,hi,underlying,hu,h0,hlt,X05 hsz,part,u0j hg,Sem.run_bind,hcs]
           exact h.elim
         exact h.elim
       exact h.elim
     exact h.elim
   exact h.elim
 . rename_i src dst x hop;have hx:=hc.eval x;split at h
   . rename_i s a' ts d ex es ed;rw[ex]at hx;simp only[Rel]at hx;obtain⟨r,hr,hk⟩:=h;refine fin ?_ hk;simp only[execOp,hop,hx,Sem.run_bind,I0z es ed hr,Result.andThen_ok,Sem.run_pure]
   exact h.elim
 . rename_i t x lo hi mx hop;have hx:=hc.eval x;have hm:=hc.eval mx;split at h
   . rename_i e a' len cap l hh km m he ex hlo hhi em;rw[ex]at hx; rw[em]at hm;simp only[Rel]at hx hm;split at h
     . rename_i sz hsz;refine fin ?_ h.2;have hlo':(lo.map a.eval=none/\l=0)\/∃k,lo.map a.eval=some (.int k l):=by
        cases lo with
        | none=>simp at hlo; exact .inl ⟨rfl,hlo.symm⟩
        | some y =>
          have hry:=hc.eval y;simp only at hlo;split at hlo
          . rename_i k n hy; cases hlo; rw[hy]at hry; exact .inr ⟨k,by simp only[Aw]; rw[hry]⟩
          simp at hlo
       cases hi with
       | none=>simp at hhi
       | some y =>
         have hry:=hc.eval y;simp only at hhi;split at hhi
         . rename_i kh n hy;cases hhi; rw[hy]at hry;simp only[Rel]at hry;simp only[execOp,hop,hx,hm,hry,Aw,Sem.run_bind,T0o he hsz hlo' h.1,Result.andThen_ok,Sem.run_pure]
         simp at hhi
     exact h.elim
   exact h.elim
 . rename_i t x hop;have hx:=hc.eval x;split at h
   . rename_i p n e ex ha;rw[ex]at hx;simp only[Rel]at hx;split at h
     . rename_i sz hsz;refine fin ?_ h.2;simp only[execOp,hop,hx,Option.map_none,Sem.run_bind,U0o ha hsz,Result.andThen_ok,Sem.run_pure]
     exact h.elim
   exact h.elim
 exact h.elim
theorem o0u{P:Program}{Shp V rt o B w0 σ a w addr k}(hc:Conc B w0 σ V a w addr)
 (h:A08 P Shp V rt o σ.ev σ.own[rt]? k):∃s ob,k s ob/\Does P o B w0 V a w (σ.setOwn rt ob) s:=by
 unfold A08 at h;split at h
 . rename_i c ob hop hblk;have hg:=N02 hblk;have hre:ob.cs.real:=by
    cases hcs:ob.cs with
    | fixed l=>trivial
    | dyn l=>trivial
    | list l => exfalso; rw [hcs] at h; revert h; repeat' split
                all_goals simp_all
    | reg l =>
      exfalso; rw[hcs]at h; revert h; repeat' split
      all_goals simp_all
   obtain⟨arr,hw,hba⟩:=hc.blk rt ob hg hre;obtain⟨callee,args,argTypes⟩:=c;split at h
   . rename_i x y t t2 hcal hargs htys;simp only at hcal hargs htys;have h1:args=#[x,y]:=by apply Bv; simpa using hargs
     have h2:argTypes=#[t,t2]:=by apply Bv; simpa using htys
     subst hcal; subst h1; subst h2;have hx:=hc.eval x;have hy:=hc.eval y;split at h
     . rename_i id off len cap a' n cap' e l ex ey he hcs;rw[ex]at hx; rw[ey]at hy;simp only[Rel]at hx hy;split at h
       . rename_i sz hid hsz;have hid:=Aj hid;obtain⟨vs,hvs,hlen,hne,h1c,hle,hk⟩:=h;rw[hcs]at hba;simp only[X06]at hba;have hasz:arr.size=l.length:=by rw[hba]; simp
         have hst:=run_storeCells_at P (addr rt) off ob.ty vs 0 arr w hw (by simpa [hasz]using hle) h1c;simp only[Dm]at hst;have hmin:Nat.min n len=min n len:=rfl;have hload:(Builtin.firstCells sz (Nat.min n len) (.slice a' n cap')).run P w = .ok vs.toArray w:=by
          cases a' with
          | none =>
            rcases hne with rfl|h0
            . simp[Builtin.firstCells]
            simp at h0
          | some A =>
            simp only[Builtin.firstCells];have:=run_loadCells_list (P:=P) w A vs (λj v hv=>N04 hc.vin (hvs j v hv));rw[hlen]at this;exact this
         refine⟨_,_,hk,.int .i64 (min n len:Nat),_,_,addr,?_,.inl rfl,hc.wrBlk hblk hre (.dyn (setL l off vs)) (by obtain⟨ty,cs⟩:=ob; simp only at hcs; subst hcs; rfl) (arr.toList.take off++vs++arr.toList.drop (off+vs.length)).toArray ?_,rfl⟩
         . subst hid;simp only[execOp,hop,resolve,invoke,builtin,Builtin.copy_];simp[hx.2,hy,underlying,U05 he,Builtin.lenOf,X05 hsz,hload,hst,goInt,hmin]
         simp only[X06];rw[t0h _ _ _ hle,hba]
       exact h.elim
     exact h.elim
   exact h.elim
 exact h.elim
theorem G11{addr own}{x:Operand}{s:SV}{a:Act}(h:Rel addr own s (a.eval x)):Rel addr own (cl x s) (a.eval x):=by
 unfold cl; split
 . rfl
 exact h
theorem w0w{P:Program}{V rt o B w0 σ a w addr k}(hc:Conc B w0 σ V a w addr)
 (h:L0f P o σ.ev σ.own[rt]? k):∃s ob,k s ob/\Does P o B w0 V a w (σ.setOwn rt ob) s:=by
 unfold L0f at h;split at h
 . rename_i t x b hop hb;have hx:=hc.eval x;split at h
   . rename_i c ex;rw[ex]at hx;simp only[Rel]at hx;refine⟨_,_,h,.bool (!c),_,w,addr,?_,.inl rfl,?_,?_⟩
     . simp[execOp,hop,hx,Op.unary]
     . rw[m00 hb]; exact hc
     rfl
   . rename_i c ex;rw[ex]at hx;simp only[Rel]at hx;refine⟨_,_,h,.bool (!c),_,w,addr,?_,.inl rfl,?_,?_⟩
     . simp[execOp,hop,hx,Op.unary]
     . rw[m00 hb]; exact hc
     rfl
   exact h.elim
 . rename_i c x y b hop hb;have hr:=hc.eval c;split at h
   . rename_i ec;rw[ec]at hr;simp only[Rel]at hr;refine⟨_,_,h,a.eval x,_,w,addr,?_,.inl rfl,?_,?_⟩
     . simp only[execOp,hop,hr,asBool,Sem.run_bind,Sem.run_pure,Result.andThen_ok,Az]
     . rw[m00 hb]; exact hc
     rw[m00 hb]; exact G11 (hc.eval x)
   . rename_i ec;rw[ec]at hr;simp only[Rel]at hr;refine⟨_,_,h,a.eval y,_,w,addr,?_,.inl rfl,?_,?_⟩
     . simp[execOp,hop,hr,asBool,Sem.run_pure]
     . rw[m00 hb]; exact hc
     rw[m00 hb]; exact G11 (hc.eval y)
   exact h.elim
 exact h.elim
theorem t0r{P:Program}{Shp V an o B w0 σ a w addr k}(hc:Conc B w0 σ V a w addr)
 (h:a0a P Shp V an o σ.ev σ.own[an.rt]? k):∃s ob,k s ob/\Does P o B w0 V a w (σ.setOwn an.rt ob) s:=by
 unfold a0a at h;split at h
 . exact k0u hc h
 . exact q0w hc h
 . exact l0u hc h
 . exact s0w hc h
 . exact q0r hc h
 . exact s0r hc h
 . exact n0u hc h
 . exact o0u hc h
 . exact t0w hc h
 . exact m0u hc h
 . split at h
   . rename_i b hb;obtain⟨s,hk,x,nx,w',addr',h1,h2,h3,h4⟩:=w0j hc h;unfold litK at hk;split at hk
     . exact⟨_,b,hk,x,nx,w',addr',h1,h2,by rw[m00 hb]; exact h3,h4⟩
     . exact⟨_,b,hk,x,nx,w',addr',h1,h2,by rw[m00 hb]; exact h3,h4⟩
     exact hk.elim
   exact h.elim
 . exact w0w hc h
 . split at h
   . rename_i b hb;obtain⟨s,hk,hd⟩:=w0j hc h;exact⟨s,b,hk,by rw[m00 hb]; exact hd⟩
   exact h.elim
 split at h
 . rename_i b hb;obtain⟨s,hk,hd⟩:=w0j hc h;exact⟨s,b,hk,by rw[m00 hb]; exact hd⟩
 exact h.elim
