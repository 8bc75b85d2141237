/- Part. -/
import Derived.Test.YtjadnpidefnpoaaGreatVcG
namespace Go.Vc
open Go Go.RowKit
def spT:Nat->Nat->List (Nat×SV)->List SV
 | 0,_,_=>[]
 | n+1,i,[] => .any::spT n (i+1) []
 | n+1,i,(j,s)::l=>match Nat.beq i j with
   | true=>s::spT n (i+1) l
   | false => .any::spT n (i+1) ((j,s)::l)
def spO:Nat->Nat->List (Nat×OB)->List (Option OB)
 | 0,_,_=>[]
 | n+1,i,[]=>none::spO n (i+1) []
 | n+1,i,(j,s)::l=>match Nat.beq i j with
   | true=>some s::spO n (i+1) l
   | false=>none::spO n (i+1) ((j,s)::l)
abbrev Q1(s:SV):Prop:=s=s
abbrev E2(s t:SV):Prop:=s=t
abbrev O2(a b:OB):Prop:=some a=some b
def i0p:List SV->List SV->Prop
 | _,[]=>True
 | [],t::m=>match t with | .any=>i0p [] m|_=>False
 | s::l,t::m=>match t with | .any=>i0p l m|t=>s=t/\i0p l m
def j0p:List (Option OB)->List (Option OB)->Prop
 | _,[]=>True
 | [],t::m=>match t with|none=>j0p [] m|some _=>False
 | s::l,t::m=>match t with|none=>j0p l m|some ob=>s=some ob/\j0p l m
def Fits(σ τ:St):Prop :=
 match Nat.beq σ.tm.length τ.tm.length with
 | true=>i0p σ.tm τ.tm/\j0p σ.own τ.own
 | false=>False
inductive AC:Type 1
 | leaf
 | reg (ans:List An)
 | draw (canon:List (Nat×An)) (masks:List Nat)
 | seq (a b:AC)
 | cut (γ α:Type) (get:St->γ) (st:γ->α->St) (I:γ->α->View->Prop) (a b:AC)
 | cond (a b:AC)
 | block (a:AC)
 | loop (γ α:Type) (get:St->γ) (st:γ->α->St) (I:γ->α->View->Prop) (μ:γ->α->View->Nat) (a:AC)
 | pub (id:Nat) (a:AC)
 | adopt (t id:Nat) (ty:TypeId) (a:AC)
 | adoptC (b j id:Nat) (ty:TypeId) (a:AC)
 | solid (id:Nat) (a:AC)
 | loose (id:Nat) (a:AC)
 | flat (id:Nat) (a:AC)
 | newR (r:Nat) (ty:TypeId) (a:AC)
 | giveR (id r:Nat) (a:AC)
 | pubR (r:Nat) (a:AC)
def gInt:SV->Int | .val (.int _ n)=>n|_=>0
def T08:SV->Bool | .val (.bool b)=>b | .lit b=>b|_=>false
def gFl:SV->Nat | .val (.float _ b)=>b|_=>0
def gPtr:SV->Option Addr | .val (.pointer p)=>p|_=>none
def gVal:SV->Value | .val v=>v|_=>undef
def gSlA:SV->Option Addr | .val (.slice a _ _)=>a|_=>none
def gSlL:SV->Nat | .val (.slice _ n _)=>n|_=>0
def gSlC:SV->Nat | .val (.slice _ _ c)=>c|_=>0
def gLen:SV->Nat | .osl _ _ n _=>n | .lst _ n _=>n | .les _ n _=>n|_=>0
def gCap:SV->Nat | .osl _ _ _ c=>c | .lst _ _ c=>c | .les _ _ c=>c|_=>0
def gTm(σ:St)(i:Nat):SV:=σ.tm.getD i .any
def gOwn(σ:St)(id j:Nat):SV:=match σ.own.getD id none with|some ⟨_,.fixed l⟩=>l.getD j .any|_ => .any
def gReg(σ:St)(id:Nat):View:=match σ.own.getD id none with|some ⟨_,.reg m⟩=>m|_=>λ_=>none
def gDyn(σ:St)(id:Nat):List Value:=match σ.own.getD id none with|some ⟨_,.dyn l⟩=>l|some ⟨_,.list l⟩=>l|_=>[]
def w0g(id b:Nat):SV->SV
 | .own i off=>if i=id then .val (.pointer (some ⟨b,off,none⟩))else .own i off
 | .osl i off len cap=>if i=id then .val (.slice (some ⟨b,off,none⟩) len cap)else .osl i off len cap
 | .clo f ids=>if ids.contains id then .any else .clo f ids
 | .lst i n cap=>if i=id then .val (.slice (lstA b cap) n cap)else .lst i n cap
 | .tlst i n cap r=>if i=id then .val (.tuple (Value.slice (lstA b cap) n cap::r).toArray)else .tlst i n cap r
 | .les i n cap=>if i=id then .val (.slice (some ⟨b,0,none⟩) n cap)else .les i n cap
 | s=>s
def m0i(id b:Nat):Cs->Cs
 | .fixed l => .fixed (l.map (w0g id b))
 | .dyn l => .dyn l
 | .list l => .list l
 | .reg m => .reg m
def St.pubAt(σ:St)(id b:Nat):St :=
 { tm:=σ.tm.map (w0g id b),own:=(σ.own.map λo=>o.map λob=>⟨ob.ty,m0i id b ob.cs⟩).set id none }
def cellsOf(cs:Cs):Option (List Value) :=
 match cs with
 | .fixed l=>S07 l
 | .dyn l=>some l
 | .list l=>some l
 | .reg _=>none
def c0m(id:Nat):SV->SV
 | .lst i n c=>if i=id then .osl i 0 n c else .lst i n c
 | .tlst i n c r=>if i=id then .any else .tlst i n c r
 | .les i n c=>if i=id then .osl i 0 n c else .les i n c
 | s=>s
def d0m(id:Nat):Cs->Cs
 | .fixed l => .fixed (l.map (c0m id))
 | .dyn l => .dyn l
 | .list l => .list l
 | .reg m => .reg m
def o0l(id:Nat):List SV->Prop
 | []=>True
 | .lst i _ c::l=>match Nat.beq i id with
   | true=>c≠0/\o0l id l
   | false=>o0l id l
 | _::l=>o0l id l
def J0w(id:Nat):List (Option OB)->Prop
 | []=>True
 | some ⟨_,.fixed l⟩::r=>o0l id l/\J0w id r
 | _::r=>J0w id r
def St.solid(σ:St)(id:Nat)(ty:TypeId)(l:List Value):St :=
 { tm:=σ.tm.map (c0m id),own:=(σ.own.map λo=>o.map λob=>⟨ob.ty,d0m id ob.cs⟩).set id (some ⟨ty,.dyn l⟩) }
def e0m(id:Nat):SV->SV
 | .osl i off n c=>if i=id then(match off with|0 => .les i n c|_ => .any)else .osl i off n c
 | .own i off=>if i=id then .any else .own i off
 | .clo f ids=>if ids.contains id then .any else .clo f ids
 | s=>s
def f0m(id:Nat):Cs->Cs
 | .fixed l => .fixed (l.map (e0m id))
 | cs=>cs
def St.loose(σ:St)(id:Nat)(ty:TypeId)(l:List Value):St :=
 { tm:=σ.tm.map (e0m id),own:=(σ.own.map λo=>o.map λob=>⟨ob.ty,f0m id ob.cs⟩).set id (some ⟨ty,.list l⟩) }
def pubK(cs:Cs)(p:Prop):Prop :=
 match cs with
 | .list l=>l≠[]->p
 | _=>p
def c14(cs:Cs)(p:Prop):Prop :=
 match cs with
 | .list l=>l≠[]/\p
 | _=>p
def N0z(own:List (Option OB)):SV->Bool
 | .own id _=>Nat.beq (kind (own.getD id none)) 1
 | .osl id _ _ _=>Nat.beq (kind (own.getD id none)) 1
 | .clo _ ids=>ids.all λid=>Nat.beq (kind (own.getD id none)) 1
 | .lst id _ _=>Nat.beq (kind (own.getD id none)) 2
 | .tlst id _ _ _=>Nat.beq (kind (own.getD id none)) 2
 | .les id _ _=>Nat.beq (kind (own.getD id none)) 2
 | _=>true
def d14(own:List (Option OB)):Option OB->Bool
 | some ob=>match ob.cs with
   | .fixed l=>l.all (N0z own)
   | .dyn _=>true
   | .list _=>true
   | .reg _=>true
 | none=>true
def wfB(Bl:List Nat)(τ:St):Bool :=
 Nat.beq τ.own.length τ.tm.length&&τ.tm.all (N0z τ.own)&&τ.own.all (d14 τ.own)&&Bl.all λid=>Nat.beq (kind (τ.own.getD id none)) 1
def vc(P:Program)(Shp:l04)(Bl:List Nat):AC->Code->St->View->(Exit->St->View->Prop)->Prop
 | .leaf,c,σ,V,Q =>
   match c with
   | .skip=>Q .normal σ V
   | .exit id=>Q (.exit id) σ V
   | .ret=>Q .ret σ V
   | _=>False
 | .reg ans,c,σ,V,Q =>
   match c with
   | .region _ ops false => match Nat.beq ans.length ops.size with
     | true=>O0f P Shp ops (ops.toList.zip ans) σ V λσ' V'=>Q .normal σ' V'
     | false=>False
   | _=>False
 | .draw canon masks,c,σ,V,Q =>
   match c with
   | .region _ ops true => match o0t ops canon masks with
     | true=>O0f P Shp ops ((i08 ops canon).map (·.2)) σ V λσ' V'=>Q .normal σ' V'
     | false=>False
   | _=>False
 | .seq a b,c,σ,V,Q =>
   match c with
   | .seq x y => vc P Shp Bl a x σ V fun e σ' V' => match e with
     | .normal=>vc P Shp Bl b y σ' V' Q
     | e=>Q e σ' V'
   | _=>False
 | .cut _ α get st I a b,c,σ,V,Q =>
   match c with
   | .seq x y => (vc P Shp Bl a x σ V fun e σ' V' => match e with
       | .normal=>∃x1:α,Fits σ' (st (get σ) x1)/\I (get σ) x1 V'
       | e=>Q e σ' V') /\
     ∀(x1:α) (V1:View),V.le V1->I (get σ) x1 V1->match wfB Bl (st (get σ) x1)with
      | true=>vc P Shp Bl b y (st (get σ) x1) V1 Q
      | false=>False
   | _=>False
 | .cond a b,c,σ,V,Q =>
   match c with
   | .cond t x y => match σ.ev t with
     | .lit true=>vc P Shp Bl a x σ V Q
     | .lit false=>vc P Shp Bl b y σ V Q
     | .val (.bool g)=>(g=true->vc P Shp Bl a x σ V Q)/\(g=false->vc P Shp Bl b y σ V Q)
     | _=>False
   | _=>False
 | .block a,c,σ,V,Q =>
   match c with
   | .block id x => vc P Shp Bl a x σ V fun e σ' V' => match e with
     | .exit id' => match Nat.beq id' id with
       | true=>Q .normal σ' V'
       | false=>Q (.exit id') σ' V'
     | e=>Q e σ' V'
   | _=>False
 | .loop _ α get st I μ a,c,σ,V,Q =>
   match c with
   | .loop x => (∃ x0 : α, Fits σ (st (get σ) x0) ∧ I (get σ) x0 V) ∧
     ∀(x1:α) (V1:View),V.le V1->I (get σ) x1 V1->match wfB Bl (st (get σ) x1)with
      | true => vc P Shp Bl a x (st (get σ) x1) V1 fun e σ' V' => match e with
        | .normal=>∃x2:α,Fits σ' (st (get σ) x2)/\I (get σ) x2 V'/\μ (get σ) x2 V'<μ (get σ) x1 V1
        | e=>Q e σ' V'
      | false=>False
   | _=>False
 | .pub id a,c,σ,V,Q =>
   match σ.own[id]? with
   | some (some ob) => match cellsOf ob.cs, Bl.isEmpty with
     | some l,true=>∀(b:Nat) (V':View),V.le V'->pubK ob.cs (V' b=some l.toArray)->vc P Shp Bl a c (σ.pubAt id b) V' Q
     | _,_=>False
   | _=>False
 | .newR r ty a,c,σ,V,Q =>
   match σ.own[r]?,σ.own.all (λo => !Nat.beq (kind o) 3)with
   | some none,true=>vc P Shp Bl a c (σ.setOwn r (some ⟨ty,.reg λ_=>none⟩)) V Q
   | _,_=>False
 | .giveR id r a,c,σ,V,Q =>
   match σ.own[id]?,σ.own[r]? with
   | some (some ob), some (some ⟨ty, .reg m⟩) => match cellsOf ob.cs, Bl.isEmpty with
     | some l,true=>c14 ob.cs (∀b:Nat,m b=none->V b=none->vc P Shp Bl a c ((σ.pubAt id b).setOwn r (some ⟨ty,.reg (I00 m b l.toArray)⟩)) V Q)
     | _,_=>False
   | _,_=>False
 | .pubR r a,c,σ,V,Q =>
   match σ.own[r]? with
   | some (some ⟨ty,.reg m⟩)=>ty≠1/\∀V':View,V.le V'->(∀b cs,m b=some cs->V' b=some cs)->vc P Shp Bl a c (σ.setOwn r none) V' Q
   | _=>False
 | .adopt t id ty a,c,σ,V,Q =>
   match σ.tm[t]?,σ.own[id]? with
   | some (.val (.slice none 0 0)),some none=>vc P Shp Bl a c { tm:=σ.tm.set t (.lst id 0 0),own:=σ.own.set id (some ⟨ty,.list []⟩) } V Q
   | _,_=>False
 | .adoptC b j id ty a,c,σ,V,Q =>
   match σ.own[b]?,σ.own[id]? with
   | some (some ⟨tb, .fixed l⟩), some none => match l[j]? with
     | some (.val (.slice none 0 0))=>vc P Shp Bl a c { tm:=σ.tm,own:=(σ.own.set id (some ⟨ty,.list []⟩)).set b (some ⟨tb,.fixed (l.set j (.lst id 0 0))⟩) } V Q
     | _=>False
   | _,_=>False
 | .solid id a,c,σ,V,Q =>
   match σ.own[id]? with
   | some (some ⟨ty,.list l⟩)=>(l≠[]/\o0l id σ.tm/\J0w id σ.own)/\vc P Shp Bl a c (σ.solid id ty l) V Q
   | _=>False
 | .loose id a,c,σ,V,Q =>
   match σ.own[id]?,Bl.all (λq => !(Nat.beq q id))with
   | some (some ⟨ty,.dyn l⟩),true=>vc P Shp Bl a c (σ.loose id ty l) V Q
   | _,_=>False
 | .flat id a,c,σ,V,Q =>
   match σ.own[id]? with
   | some (some ⟨ty, .fixed l⟩) => match S07 l with
     | some vs=>vc P Shp Bl a c (σ.setOwn id (some ⟨ty,.dyn vs⟩)) V Q
     | none=>False
   | _=>False
def O0z(B:List (Nat×Nat))(w0:Base)(V:View)(Q:Exit->St->View->Prop)(e:Exit)(a:Act)(w:World):Prop :=
 ∃σ' V' addr,V.le V'/\Conc B w0 σ' V' a w addr/\Q e σ' V'
theorem O0z.le{B w0 V V1 Q e a w}(h:View.le V V1)(hq:O0z B w0 V1 Q e a w):O0z B w0 V Q e a w :=
 let ⟨σ',V',addr,hle,hc,hk⟩:=hq; ⟨σ',V',addr,Gx h hle,hc,hk⟩
theorem M0e:∀ {l m:List SV},i0p l m->∀i,m.getD i .any = .any\/(i<l.length/\l.getD i .any=m.getD i .any)
 | _,[],_,i => .inl rfl
 | [],t::m,h,i=>by
   cases t<;>simp only[i0p]at h;cases i with
   | zero=>exact .inl rfl
   | succ i => rcases M0e h i with h | h
               . exact .inl (by simpa using h)
               simp at h
 | s::l,t::m,h,i=>by
   by_cases ht:t = .any
   . subst ht;simp only[i0p]at h;cases i with
     | zero=>exact .inl rfl
     | succ i => rcases M0e h i with h | h
                 . exact .inl (by simpa using h)
                 exact .inr ⟨by simpa using h.1,by simpa using h.2⟩
   have h':s=t/\i0p l m:=by cases t<;>first|exact h|exact absurd rfl ht
   cases i with
   | zero=>exact .inr ⟨by simp,by simpa using h'.1⟩
   | succ i => rcases M0e h'.2 i with h | h
               . exact .inl (by simpa using h)
               exact .inr ⟨by simpa using h.1,by simpa using h.2⟩
theorem N0e:∀ {l m:List (Option OB)},j0p l m->∀i ob,m.getD i none=some ob->l.getD i none=some ob
 | _,[],_,i,ob,h=>by simp at h
 | [],t::m,h,i,ob,hm=>by
   cases t<;>simp only[j0p]at h;cases i with
   | zero=>simp at hm
   | succ i=>have:=N0e h i ob (by simpa using hm); simp at this
 | s::l,t::m,h,i,ob,hm=>by
   cases t with
   | none =>
     simp only[j0p]at h;cases i with
     | zero=>simp at hm
     | succ i=>simpa using N0e h i ob (by simpa using hm)
   | some ob' =>
     simp only[j0p]at h;cases i with
     | zero=>simp at hm; subst hm; simp[h.1]
     | succ i=>simpa using N0e h.2 i ob (by simpa using hm)
theorem Conc.fits{B w0 σ τ V a w addr}{Bl:List Nat}(hc:Conc B w0 σ V a w addr)(h:Fits σ τ)(hB:B.map (·.1)=Bl)(hwf:wfB Bl τ=true):Conc B w0 τ V a w addr:=by
 simp only[wfB,By]at hwf;obtain⟨⟨⟨hlo,hlv⟩,hlb⟩,hB2⟩:=hwf;unfold Fits at h;split at h
 case h_2=>exact h.elim
 rename_i hlt;have hlt:=Aj hlt;have hlo:=Aj hlo;have hO:=N0e h.2;have hrel:∀ {s:SV} {x:Value},N0z τ.own s=true->Rel addr σ.own s x->Rel addr τ.own s x:=by
  intro s x hl hr;cases s with
  | own id off=>exact⟨Aj hl,hr.2⟩
  | osl id off len cap=>exact⟨Aj hl,hr.2⟩
  | clo f ids=>exact⟨λid hid=>Aj (Bk9.1 hl id hid),hr.2⟩
  | lst id n cap=>exact⟨Aj hl,hr.2⟩
  | tlst id n cap r=>exact⟨Aj hl,hr.2⟩
  | les id n cap=>exact⟨Aj hl,hr.2⟩
  | _=>exact hr
 refine⟨hc.size.trans hlt,hlo,λi hi => ?_,hc.defers,λid ob hob hre => ?_,λid ob hob hre=>hc.lo id ob (hO id ob hob) hre,
  λp hp=>⟨(hc.lent p hp).1,Aj (Bk9.1 hB2 p.1 (by rw[<-hB]; exact Bc.2 ⟨p,hp,rfl⟩))⟩,
  λid ob hob hre=>hc.out id ob (hO id ob hob) hre,λid id' ob ob' h1 h2 hr1 hr2=>hc.inj id id' ob ob' (hO _ _ h1) (hO _ _ h2) hr1 hr2,hc.vin,hc.below,hc.fresh,
  hc.reg.step (λi ty m h=>hO _ _ h) (λ_ _ _=>rfl) (λ_ _ h => .inl h) (λi ob h hr => .inl ⟨i,ob,hO _ _ h,hr,rfl⟩)⟩
 . have hl:N0z τ.own (τ.tm.getD i .any)=true:=by
     have:=Bk9.1 hlv (τ.tm[i]) (Ax _);simpa [List.getD,hi]using this
   rcases M0e h.1 i with h1|⟨h1,h2⟩
   . rw[h1]; trivial
   rw[<-h2]at hl ⊢; exact hrel hl (hc.rel i h1)
 obtain⟨arr,hw,hb⟩:=hc.blk id ob (hO id ob hob) hre;refine⟨arr,hw,?_⟩;obtain⟨ty,cs⟩:=ob;cases cs with
 | dyn l=>exact hb
 | list l=>exact hb
 | reg m=>exact hb
 | fixed l =>
   refine⟨hb.1,λi hi => ?_⟩;have h1:some ⟨ty,.fixed l⟩∈τ.own:=by
    have hid:id<τ.own.length:=by
     rcases Ad id τ.own.length with h|h
     . exact h
     simp[List.getD,Ab h]at hob
    have:τ.own[id]=some ⟨ty,.fixed l⟩:=by simpa [List.getD,hid]using hob
    rw[<-this]; exact Ax _
   have h2:=Bk9.1 hlb _ h1;simp only[d14]at h2;have h3:=Bk9.1 h2 (l[i]) (Ax _);have:=hb.2 i hi;refine hrel ?_ this;simpa [List.getD,hi]using h3
theorem Q0f{addr own}{l:List SV}{vs:List Value}{arr:Array Value}(h:S07 l=some vs)(hb:X06 addr own (.fixed l) arr):arr=vs.toArray:=by
 have:=M0f (ys:=arr.toList) h (by simpa using hb.1) (λi hi=>by simpa [List.getD,Ai]using hb.2 i hi);apply Bv;simpa using this
theorem Rel.subst{addr own}{id:Nat}{own':List (Option OB)}(hl:∀i,i≠id->kind (own'.getD i none)=kind (own.getD i none)){s:SV}{x:Value}
 (h:Rel addr own s x):Rel addr own' (w0g id (addr id) s) x:=by
 cases s with
 | own i off =>
   simp only[w0g]; split
   . rename_i e; rw[h.2,e]; rfl
   rename_i e; exact⟨(hl i e).trans h.1,h.2⟩
 | osl i off len cap =>
   simp only[w0g]; split
   . rename_i e; rw[h.2,e]; rfl
   rename_i e; exact⟨(hl i e).trans h.1,h.2⟩
 | clo f ids =>
   simp only[w0g]; split
   . trivial
   rename_i e;refine⟨λi hi=>(hl i ?_).trans (h.1 i hi),h.2⟩;rintro rfl; simp at e; exact e hi
 | lst i n cap =>
   simp only[w0g]; split
   . rename_i e; rw[h.2,e]; rfl
   rename_i e; exact⟨(hl i e).trans h.1,h.2⟩
 | tlst i n cap r =>
   simp only[w0g]; split
   . rename_i e; rw[h.2,e]; rfl
   rename_i e; exact⟨(hl i e).trans h.1,h.2⟩
 | les i n cap =>
   simp only[w0g]; split
   . rename_i e; rw[h.2,e]; rfl
   rename_i e; exact⟨(hl i e).trans h.1,h.2⟩
 | val v=>exact h
 | lit b=>exact h
 | any=>trivial
theorem Conc.named{B w0 σ V a w addr}(hc:Conc B w0 σ V a w addr)(hB:B=[])(hA:w0.A=[]){id:Nat}{ob:OB}(hob:σ.own[id]?=some (some ob)){l:List Value}
 (hl:cellsOf ob.cs=some l) (V':View) (hle:View.le V V') (hV':∀b cs,V' b=some cs->V b=some cs\/(b=addr id/\ob.cs.real/\cs=l.toArray)):Conc B w0 (σ.pubAt id (addr id)) V' a w addr:=by
 have hg:=N02 hob;have hget:∀i,(σ.pubAt id (addr id)).own.getD i none=if i=id then none else(σ.own.getD i none).map λob=>⟨ob.ty,m0i id (addr id) ob.cs⟩:=by
  intro i;simp only[St.pubAt,List.getD,As,Bt];by_cases e:id=i
  . subst e; simp; split<;>rfl
  have e':¬i=id:=λh=>e h.symm
  simp only[e,e',At9,Cd];cases σ.own[i]?<;>simp
 have hlive:∀i,i≠id->kind ((σ.pubAt id (addr id)).own.getD i none)=kind (σ.own.getD i none):=by
  intro i hi; rw[hget,if_neg hi];cases σ.own.getD i none with
  | none=>rfl
  | some ob=>obtain⟨ty,cs⟩:=ob; cases cs<;>rfl
 have hold:∀i ob',(σ.pubAt id (addr id)).own.getD i none=some ob'->ob'.cs.real->i≠id/\∃ob0,σ.own.getD i none=some ob0/\ob'=⟨ob0.ty,m0i id (addr id) ob0.cs⟩/\ob0.cs.real:=by
  intro i ob' h hre;rw[hget]at h;split at h
  . simp at h
  rename_i e;obtain⟨ob0,h0,rfl⟩:=Bg.1 h;refine⟨e,ob0,h0,rfl,?_⟩;obtain⟨ty,cs⟩:=ob0;cases cs with
  | fixed l=>trivial
  | dyn l=>trivial
  | list l=>exact hre
  | reg m=>exact hre
 clear hle;refine⟨by simp[St.pubAt,hc.size],by simp[St.pubAt,hc.osize],λi hi => ?_,hc.defers,λi ob' h hre => ?_,λi ob' h hre => ?_,λp hp => ?_,λi ob' h hre => ?_,λi i' ob1 ob2 h1 h2 hr1 hr2 => ?_,?_,hc.below,?_,
  hc.reg.step (λi ty m h => ?_) (λ_ _ _=>rfl) (λb cs h=>(hV' b cs h).imp (λg=>g) λg => .inr ⟨id,ob,hg,g.2.1,g.1.symm⟩) (λi ob' h hre => ?_)⟩
 . have hi':i<σ.tm.length:=by simpa [St.pubAt]using hi
   have:=Rel.subst hlive (hc.rel i hi');simpa [St.pubAt,List.getD,hi']using this
 . obtain⟨hne,ob0,h0,rfl,hre0⟩:=hold i ob' h hre;obtain⟨arr',hw',hb'⟩:=hc.blk i ob0 h0 hre0;refine⟨arr',hw',?_⟩;obtain⟨ty,cs⟩:=ob0;cases cs with
   | dyn l'=>exact hb'
   | list l'=>exact hb'
   | reg m=>exact hb'
   | fixed l' =>
     refine⟨by simpa using hb'.1,λj hj => ?_⟩;have hj':j<l'.length:=by simpa using hj
     have:=Rel.subst hlive (hb'.2 j hj');simpa [List.getD,hj']using this
 . obtain⟨hne,ob0,h0,_,hre0⟩:=hold i ob' h hre;exact hc.lo i ob0 h0 hre0
 . subst hB; simp at hp
 . obtain⟨hne,ob0,h0,_,hre0⟩:=hold i ob' h hre;cases hv:V' (addr i)with
   | none=>rfl
   | some cs =>
     rcases hV' _ _ hv with h1|⟨h1,h2,_⟩
     . rw[hc.out i ob0 h0 hre0]at h1; simp at h1
     exact absurd (hc.inj i id ob0 ob h0 hg hre0 h2 h1) hne
 . obtain⟨_,ob1',h1',_,hr1'⟩:=hold i ob1 h1 hr1;obtain⟨_,ob2',h2',_,hr2'⟩:=hold i' ob2 h2 hr2;exact hc.inj i i' ob1' ob2' h1' h2' hr1' hr2'
 . intro b cs hbc;rcases hV' _ _ hbc with h1|⟨rfl,h2,rfl⟩
   . exact hc.vin b cs h1
   obtain⟨arr,hw,hb⟩:=hc.blk id ob hg h2;have harr:arr=l.toArray:=by
    obtain⟨ty,cs⟩:=ob;cases cs with
    | dyn l'=>simp[cellsOf]at hl; subst hl; exact hb
    | list l'=>simp[cellsOf]at hl; subst hl; exact hb
    | reg m=>simp[cellsOf]at hl
    | fixed l'=>exact Q0f hl hb
   exact⟨ob.ty,(0,0),by rw[hw,harr]⟩
 . intro b cs hbc;rcases hV' _ _ hbc with h1|⟨rfl,h2,rfl⟩
   . exact hc.fresh b cs h1
   rcases hc.lo id ob hg h2 with h|h
   . exact .inr h
   subst hB; simp[hA]at h
 . rw[hget]at h;split at h
   . simp at h
   obtain⟨ob0,h0,e0⟩:=Bg.1 h;obtain⟨ty0,cs0⟩:=ob0;cases cs0 with
   | fixed l=>simp[m0i]at e0
   | dyn l=>simp[m0i]at e0
   | list l=>simp[m0i]at e0
   | reg m'=>rw[h0]; simp only[m0i]at e0; rw[<-e0]
 obtain⟨_,ob0,h0,_,hre0⟩:=hold i ob' h hre;exact .inl ⟨i,ob0,h0,hre0,rfl⟩
theorem Conc.pub{B w0 σ V a w addr}(hc:Conc B w0 σ V a w addr)(hB:B=[])(hA:w0.A=[]){id:Nat}{ob:OB}(hob:σ.own[id]?=some (some ob)){l:List Value}
 (hl:cellsOf ob.cs=some l) :
 ∃V',View.le V V'/\pubK ob.cs (V' (addr id)=some l.toArray)/\Conc B w0 (σ.pubAt id (addr id)) V' a w addr:=by
 have hg:=N02 hob;have main:∀V',View.le V V'->(∀b cs,V' b=some cs->V b=some cs\/(b=addr id/\ob.cs.real/\cs=l.toArray))->Conc B w0 (σ.pubAt id (addr id)) V' a w addr:=λV' hle hV'=>hc.named hB hA hob hl V' hle hV'
 have hyes:ob.cs.real->∃V',View.le V V'/\V' (addr id)=some l.toArray/\Conc B w0 (σ.pubAt id (addr id)) V' a w addr:=λhre =>
  ⟨λi=>if i=addr id then some l.toArray else V i,A0b (hc.out id ob hg hre),by simp,main _ (A0b (hc.out id ob hg hre)) λb cs hb=>by
    by_cases e:b=addr id
    . simp[e]at hb; exact .inr ⟨e,hre,hb.symm⟩
    simp[e]at hb; exact .inl hb⟩
 by_cases hre:ob.cs.real
 . obtain⟨V',h1,h2,h3⟩:=hyes hre;refine⟨V',h1,?_,h3⟩;unfold pubK;split
   . exact λ_=>h2
   exact h2
 refine⟨V,Gw V,?_,main V (Gw V) λb cs hb => .inl hb⟩;obtain⟨ty,cs⟩:=ob;cases cs with
 | list l=>exact λh=>absurd h hre
 | reg m=>simp[cellsOf]at hl
 | _=>exact absurd trivial hre
theorem Conc.pubReg{B w0 σ V a w addr}(hc:Conc B w0 σ V a w addr){r:Nat}{ty:TypeId}{m:View}(hr:σ.own[r]?=some (some ⟨ty,.reg m⟩))(hty:ty≠1) :
 ∃V',View.le V V'/\(∀b cs,m b=some cs->V' b=some cs)/\Conc B w0 (σ.setOwn r none) V' a w addr:=by
 have hlt:=z0w hr;have hg:=N02 hr;have hget:=w0h hlt none;have hsome:∀id ob',(σ.setOwn r none).own.getD id none=some ob'->σ.own.getD id none=some ob':=by
  intro id ob' h;rw[hget]at h;split at h
  . simp at h
  exact h
 have hmono:∀id,kind (σ.own.getD id none)=1\/kind (σ.own.getD id none)=2->kind ((σ.setOwn r none).own.getD id none)=kind (σ.own.getD id none):=by
  intro id h;rw[hget]; split
  . rename_i e; subst e; rw[hg]at h; simp at h
  rfl
 have hrel:∀ {s:SV} {x:Value},Rel addr σ.own s x->Rel addr (σ.setOwn r none).own s x:=by
  intro s x h;cases s with
  | own id off=>exact⟨by rw[hmono id (.inl h.1)]; exact h.1,h.2⟩
  | osl id off len cap=>exact⟨by rw[hmono id (.inl h.1)]; exact h.1,h.2⟩
  | clo f ids=>exact⟨λid hid=>by rw[hmono id (.inl (h.1 id hid))]; exact h.1 id hid,h.2⟩
  | lst id n cap=>exact⟨by rw[hmono id (.inr h.1)]; exact h.1,h.2⟩
  | tlst id n cap rest=>exact⟨by rw[hmono id (.inr h.1)]; exact h.1,h.2⟩
  | les id n cap=>exact⟨by rw[hmono id (.inr h.1)]; exact h.1,h.2⟩
  | val v=>exact h
  | lit b=>exact h
  | any=>trivial
 let V':View:=λi=>match m i with|some cs=>some cs|none=>V i
 have hle:View.le V V':=by
  intro b cs h;show(match m b with|some cs=>some cs|none=>V b)=some cs
  cases e:m b with
  | none=>exact h
  | some cs'=>rw[(hc.reg.at_ r ty m hg b cs' e).2.2.1]at h; exact absurd h (by simp)
 have hV':∀b cs,V' b=some cs->V b=some cs\/m b=some cs:=by
  intro b cs h;have h:(match m b with|some cs=>some cs|none=>V b)=some cs:=h
  cases e:m b with
  | none=>rw[e]at h; exact .inl h
  | some cs'=>rw[e]at h; exact .inr h
 refine⟨V',hle,λb cs h=>by show(match m b with|some cs=>some cs|none=>V b)=some cs; rw[h],?_⟩
 refine⟨hc.size,by simp[St.setOwn,hc.osize],λi hi=>hrel (hc.rel i hi),hc.defers,?_,λid ob h hre=>hc.lo id ob (hsome id ob h) hre,λp hp=>by
  obtain⟨h1,h2⟩:=hc.lent p hp;refine⟨h1,?_⟩;rw[hget]; split
  . rename_i e; rw[e,hg]at h2; simp at h2
  . exact h2,?_,
  λid id' ob ob' h h' hr hr'=>hc.inj id id' ob ob' (hsome _ _ h) (hsome _ _ h') hr hr',?_,hc.below,?_,.none λid ty' m' h => ?_⟩
 . intro id ob h hre;obtain⟨arr,hw,hb⟩:=hc.blk id ob (hsome id ob h) hre;refine⟨arr,hw,?_⟩;cases hcs:ob.cs with
   | fixed l=>rw[hcs]at hb; exact⟨hb.1,λi hi=>hrel (hb.2 i hi)⟩
   | dyn l=>rw[hcs]at hb; exact hb
   | list l=>rw[hcs]at hb; exact hb
   | reg l=>trivial
 . intro id ob h hre;cases e:V' (addr id)with
   | none=>rfl
   | some cs =>
     rcases hV' _ _ e with g|g
     . rw[hc.out id ob (hsome id ob h) hre]at g; exact absurd g (by simp)
     exact absurd rfl ((hc.reg.at_ r ty m hg _ cs g).2.2.2 id ob (hsome id ob h) hre)
 . intro b cs h;rcases hV' _ _ h with g|g
   . exact hc.vin b cs g
   obtain⟨⟨T,hT⟩,_⟩:=hc.reg.at_ r ty m hg b cs g;exact⟨T,_,hT⟩
 . intro b cs h;rcases hV' _ _ h with g|g
   . exact hc.fresh b cs g
   rcases (hc.reg.at_ r ty m hg b cs g).2.1 with k|k
   . exact .inr k
   exact absurd k.1 hty
 have h2:=hsome _ _ h;have e:=hc.reg.one _ _ _ _ _ _ h2 hg;subst e;rw[hget,if_pos rfl]at h; simp at h
theorem y0n{P:Program}{Q:Exit->Act->World->Prop}{a:Act}{w:World}{c:Code}{α:Type}(I:α->Act->World->Prop)(μ:α->Nat)(x0:α)(h0:I x0 a w)
 (round:∀x a w,I x a w->c.wp P (Exit.then (λa' w'=>∃x',I x' a' w'/\μ x'<μ x) Q) a w):(Code.loop c).wp P Q a w:=by
 intro b k cs;have key:∀n x a w,μ x=n->I x a w ->
  ∃e a' w',Q e a' w'/\Arrives P (lone (b.at a (.code c :: .inLoop c::k)) cs w) b k cs e a' w':=by
  intro n
  induction n using Nat.strongRecOn with
  | _ n ih =>
    intro x a w hn hI;obtain⟨e,a₁,w₁,hq,harr⟩:=round x a w hI b (.inLoop c::k) cs;cases e with
    | normal =>
      obtain⟨x',hI₁,hlt⟩:=hq;obtain⟨e₂,a₂,w₂,hq₂,harr₂⟩:=ih (μ x') (hn▸hlt) x' a₁ w₁ rfl hI₁;exact⟨e₂,a₂,w₂,hq₂,.of_steps (Steps.trans harr (.one step_inLoop)) harr₂⟩
    | exit id=>exact⟨_,a₁,w₁,hq,.pass (x := .inLoop c) rfl (λ_ _ => .inl (by simp)) harr⟩
    | goto l=>exact⟨_,a₁,w₁,hq,.pass (x := .inLoop c) rfl (λ_ _ => .inl (by simp)) harr⟩
    | ret=>exact⟨_,a₁,w₁,hq,.pass (x := .inLoop c) rfl (λ_ _ => .inl (by simp)) harr⟩
    | panic ch=>exact⟨_,a₁,w₁,hq,.pass (x := .inLoop c) rfl (λ_ _ => .inl (by simp)) harr⟩
    | outgrown=>exact⟨_,a₁,w₁,hq,.pass (x := .inLoop c) rfl (λ_ _ => .inl (by simp)) harr⟩
 obtain⟨e,a',w',hq,harr⟩:=key _ x0 a w rfl h0;exact⟨e,a',w',hq,.of_steps (.one step_loop) harr⟩
theorem Conc.adopt{B w0 σ V a w addr}(hc:Conc B w0 σ V a w addr){t id:Nat}(ty:TypeId)(ht:σ.tm[t]?=some (.val (.slice none 0 0)))(hid:σ.own[id]?=some none) :
 ∃addr',Conc B w0 { tm:=σ.tm.set t (.lst id 0 0),own:=σ.own.set id (some ⟨ty,.list []⟩) } V a w addr':=by
 have hg:=hc.gain hid ty [] 0 (.list []) (.inl rfl) (λh=>absurd rfl h) (λh=>absurd rfl h);have hlt:id<σ.own.length:=by
  rcases Ad id σ.own.length with h|h
  . exact h
  rw[Ab h]at hid; simp at hid
 have htt:t<σ.tm.length:=by
  rcases Ad t σ.tm.length with h|h
  . exact h
  rw[Ab h]at ht; simp at ht
 refine⟨_,⟨by simpa [St.setOwn]using hg.size,by simpa [St.setOwn]using hg.osize,λi hi => ?_,hg.defers,hg.blk,hg.lo,hg.lent,hg.out,hg.inj,hg.vin,hg.below,hg.fresh,hg.reg⟩⟩;have hi':i<σ.tm.length:=by simpa using hi
 have hr:=hg.rel i hi';by_cases e:t=i
 . subst e;have h0:σ.tm.getD t .any = .val (.slice none 0 0):=by simp[List.getD,ht]
   have h1:(σ.setOwn id (some ⟨ty,.list []⟩)).tm.getD t .any = .val (.slice none 0 0):=h0;rw[h1]at hr;have h2:(σ.tm.set t (SV.lst id 0 0)).getD t .any = .lst id 0 0:=by simp[List.getD,htt]
   rw[h2];exact⟨by simp[List.getD,hlt],by simpa [Rel]using hr⟩
 have h2:(σ.tm.set t (SV.lst id 0 0)).getD i .any=σ.tm.getD i .any:=by simp[List.getD,Cr e]
 rw[h2]; exact hr
theorem Conc.adoptC{B w0 σ V a w addr}(hc:Conc B w0 σ V a w addr){b j id:Nat}{tb:TypeId}{l:List SV}(ty:TypeId)(hb:σ.own[b]?=some (some ⟨tb,.fixed l⟩))(hj:l[j]?=some (.val (.slice none 0 0)))
 (hid:σ.own[id]?=some none) :
 ∃addr',Conc B w0 { tm:=σ.tm,own:=(σ.own.set id (some ⟨ty,.list []⟩)).set b (some ⟨tb,.fixed (l.set j (.lst id 0 0))⟩) } V a w addr':=by
 have hg:=hc.gain hid ty [] 0 (.list []) (.inl rfl) (λh=>absurd rfl h) (λh=>absurd rfl h);have hne:b≠id:=by rintro rfl; rw[hb]at hid; simp at hid
 have hlt:id<σ.own.length:=by
  rcases Ad id σ.own.length with h|h
  . exact h
  rw[Ab h]at hid; simp at hid
 have hbl:b<σ.own.length:=by
  rcases Ad b σ.own.length with h|h
  . exact h
  rw[Ab h]at hb; simp at hb
 let σ1:St:=σ.setOwn id (some ⟨ty,.list []⟩);have hb1:σ1.own[b]?=some (some ⟨tb,.fixed l⟩):=by simp only[σ1,St.setOwn]; rw[Cr (λe=>hne e.symm)]; exact hb
 have hgb:=N02 hb1;have hk2:kind (σ1.own.getD id none)=2:=by simp[σ1,St.setOwn,List.getD,hlt]
 have hget:∀i,((σ.own.set id (some ⟨ty,.list []⟩)).set b (some ⟨tb,.fixed (l.set j (.lst id 0 0))⟩)).getD i none=if i=b then some ⟨tb,.fixed (l.set j (.lst id 0 0))⟩else σ1.own.getD i none:=by
  intro i;simp only[σ1,St.setOwn,List.getD,As];by_cases e:b=i
  . subst e; simp[hbl]
  have e':¬i=b:=λx=>e x.symm
  simp[e,e']
 have hk:∀i,kind (((σ.own.set id (some ⟨ty,.list []⟩)).set b (some ⟨tb,.fixed (l.set j (.lst id 0 0))⟩)).getD i none)=kind (σ1.own.getD i none):=by
  intro i; rw[hget]; split
  . rename_i e; subst e; rw[hgb]; rfl
  rfl
 have hmono:∀i,kind (σ1.own.getD i none)≠0->kind (((σ.own.set id (some ⟨ty,.list []⟩)).set b (some ⟨tb,.fixed (l.set j (.lst id 0 0))⟩)).getD i none)=kind (σ1.own.getD i none)/\(if i=id then 0 else addr i)=(if i=id then 0 else addr i) :=
  λi _=>⟨hk i,rfl⟩
 have hold:∀i ob,((σ.own.set id (some ⟨ty,.list []⟩)).set b (some ⟨tb,.fixed (l.set j (.lst id 0 0))⟩)).getD i none=some ob->ob.cs.real->∃ob0,σ1.own.getD i none=some ob0/\ob0.cs.real:=by
  intro i ob h hre;rw[hget]at h;split at h
  . rename_i e; subst e; exact⟨_,hgb,trivial⟩
  exact⟨ob,h,hre⟩
 refine⟨λi=>if i=id then 0 else addr i,⟨hg.size,by simpa [σ1,St.setOwn]using hg.osize,λi hi=>Gy hmono (hg.rel i hi),hg.defers,λi ob h hre => ?_,λi ob h hre => ?_,λp hp=>⟨(hg.lent p hp).1,by rw[hk]; exact(hg.lent p hp).2⟩,
  λi ob h hre => ?_,λi i' ob1 ob2 h1 h2 hr1 hr2 => ?_,hg.vin,hg.below,hg.fresh,
  hg.reg.step (λi ty m h => ?_) (λ_ _ _=>rfl) (λ_ _ h => .inl h) (λi ob h hre => ?_)⟩⟩
 . rw[hget]at h;split at h
   . rename_i e; subst e; cases h;obtain⟨arr,hw,hba⟩:=hg.blk i _ hgb trivial;refine⟨arr,hw,by simpa using hba.1,λq hq => ?_⟩;have hq':q<l.length:=by simpa using hq
     have hr:=hba.2 q hq';by_cases e:j=q
     . subst e;have h1:l.getD j .any = .val (.slice none 0 0):=by simp[List.getD,hj]
       rw[h1]at hr;have h2:(l.set j (SV.lst id 0 0)).getD j .any = .lst id 0 0:=by simp[List.getD,hq']
       rw[h2];exact⟨by rw[hk]; exact hk2,by simpa [Rel]using hr⟩
     have h2:(l.set j (SV.lst id 0 0)).getD q .any=l.getD q .any:=by simp[List.getD,Cr e]
     rw[h2]; exact Gy hmono hr
   obtain⟨arr,hw,hba⟩:=hg.blk i ob h hre;exact⟨arr,hw,Gz hmono hba⟩
 . obtain⟨ob0,h0,hr0⟩:=hold i ob h hre; exact hg.lo i ob0 h0 hr0
 . obtain⟨ob0,h0,hr0⟩:=hold i ob h hre; exact hg.out i ob0 h0 hr0
 . obtain⟨_,h1',hr1'⟩:=hold i ob1 h1 hr1;obtain⟨_,h2',hr2'⟩:=hold i' ob2 h2 hr2;exact hg.inj i i' _ _ h1' h2' hr1' hr2'
 . rw[hget]at h;split at h
   . exact absurd h (by simp)
   exact h
 obtain⟨ob0,h0,hr0⟩:=hold i ob h hre; exact .inl ⟨i,ob0,h0,hr0,rfl⟩
theorem z0h{id:Nat}:∀ {l:List SV},o0l id l->∀n c,SV.lst id n c∈l->c≠0
 | [],_,n,c,h=>by simp at h
 | s::l,h,n,c,hm=>by
   rcases Bq.1 hm with e|hm
   . subst e;simp only[o0l,Nat.beq_refl]at h;exact h.1
   refine z0h (l:=l) ?_ n c hm;cases s with
   | lst i m d =>
     simp only[o0l]at h;split at h
     . exact h.2
     exact h
   | _=>exact h
theorem g0m{id:Nat}:∀ {r:List (Option OB)},J0w id r->∀ty l,some ⟨ty,.fixed l⟩∈r->o0l id l
 | [],_,ty,l,h=>by simp at h
 | o::r,h,ty,l,hm=>by
   rcases Bq.1 hm with e|hm
   . subst e; exact h.1
   refine g0m (r:=r) ?_ ty l hm;cases o with
   | none=>exact h
   | some ob =>
     obtain⟨ty',cs⟩:=ob;cases cs with
     | fixed l'=>exact h.2
     | dyn l'=>exact h
     | list l'=>exact h
     | reg m=>exact h
theorem Conc.solid{B w0 σ V a w addr}(hc:Conc B w0 σ V a w addr){id:Nat}{ty:TypeId}{l:List Value}(hid:σ.own[id]?=some (some ⟨ty,.list l⟩))(hl:l≠[])(h1:o0l id σ.tm)(h2:J0w id σ.own) :
 Conc B w0 (σ.solid id ty l) V a w addr:=by
 have hg:=N02 hid;have hlt:id<σ.own.length:=by
  rcases Ad id σ.own.length with h|h
  . exact h
  rw[Ab h]at hid; simp at hid
 have hk2:kind (σ.own.getD id none)=2:=by rw[hg]; rfl
 have hget:∀i,(σ.solid id ty l).own.getD i none=if i=id then some ⟨ty,.dyn l⟩else(σ.own.getD i none).map λob=>⟨ob.ty,d0m id ob.cs⟩:=by
  intro i;simp only[St.solid,List.getD,As,Bt];by_cases e:id=i
  . subst e; simp[hlt]
  have e':¬i=id:=λh=>e h.symm
  simp only[e,e',At9,Cd];cases σ.own[i]?<;>simp
 have hkne:∀i,i≠id->kind ((σ.solid id ty l).own.getD i none)=kind (σ.own.getD i none):=by
  intro i hi; rw[hget,if_neg hi];cases σ.own.getD i none with
  | none=>rfl
  | some ob=>obtain⟨ty,cs⟩:=ob; cases cs<;>rfl
 have hkid:kind ((σ.solid id ty l).own.getD id none)=1:=by rw[hget,if_pos rfl]; rfl
 have hrel:∀ {s:SV} {x:Value},(∀n c,s = .lst id n c->c≠0)->Rel addr σ.own s x->Rel addr (σ.solid id ty l).own (c0m id s) x:=by
  intro s x hs h;have hn:∀ {i},kind (σ.own.getD i none)=1->i≠id:=by rintro i h rfl; rw[hk2]at h; simp at h
  cases s with
  | val v=>exact h
  | lit b=>exact h
  | own i off=>exact⟨by rw[hkne i (hn h.1)]; exact h.1,h.2⟩
  | osl i off n c=>exact⟨by rw[hkne i (hn h.1)]; exact h.1,h.2⟩
  | clo f ids=>exact⟨λi hi=>by rw[hkne i (hn (h.1 i hi))]; exact h.1 i hi,h.2⟩
  | lst i n c =>
    simp only[c0m];split
    . rename_i e; subst e;have hc0:=hs n c rfl;exact⟨hkid,by rw[h.2,if_neg hc0]⟩
    rename_i e;exact⟨by rw[hkne i e]; exact h.1,h.2⟩
  | tlst i n c r =>
    simp only[c0m];split
    . trivial
    rename_i e;exact⟨by rw[hkne i e]; exact h.1,h.2⟩
  | les i n c =>
    simp only[c0m];split
    . rename_i e; subst e;exact⟨hkid,h.2⟩
    rename_i e;exact⟨by rw[hkne i e]; exact h.1,h.2⟩
  | any=>trivial
 have hold:∀i ob,(σ.solid id ty l).own.getD i none=some ob->ob.cs.real->∃ob0,σ.own.getD i none=some ob0/\ob0.cs.real:=by
  intro i ob h hre;rw[hget]at h;split at h
  . rename_i e; subst e; exact⟨_,hg,hl⟩
  obtain⟨ob0,h0,rfl⟩:=Bg.1 h;refine⟨ob0,h0,?_⟩;obtain⟨ty,cs⟩:=ob0;cases cs with
  | fixed l=>trivial
  | dyn l=>trivial
  | list l=>exact hre
  | reg m=>exact hre
 refine⟨by simp[St.solid,hc.size],by simp[St.solid,hc.osize],λi hi => ?_,hc.defers,λi ob h hre => ?_,λi ob h hre => ?_,λp hp => ?_,λi ob h hre => ?_,λi i' ob1 ob2 g1 g2 hr1 hr2 => ?_,hc.vin,hc.below,hc.fresh,
  hc.reg.step (λi ty m h => ?_) (λ_ _ _=>rfl) (λ_ _ h => .inl h) (λi ob h hre => ?_)⟩
 . have hi':i<σ.tm.length:=by simpa [St.solid]using hi
   have:=hrel (s:=σ.tm.getD i .any) (λn c e=>z0h h1 n c (by rw[<-e]; simp[List.getD,hi'])) (hc.rel i hi');simpa [St.solid,List.getD,hi']using this
 . have hh:=h;rw[hget]at h;split at h
   . rename_i e; subst e; cases h;obtain⟨arr,hw,hba⟩:=hc.blk i _ hg hl;exact⟨arr,hw,hba⟩
   rename_i e;obtain⟨ob0,h0,rfl⟩:=Bg.1 h;obtain⟨ty0,cs0⟩:=ob0;have hre0:(⟨ty0,cs0⟩:OB).cs.real:=by cases cs0<;>first|trivial|exact hre
   obtain⟨arr,hw,hba⟩:=hc.blk i _ h0 hre0;refine⟨arr,hw,?_⟩;cases cs0 with
   | dyn l'=>exact hba
   | list l'=>exact hba
   | reg m=>exact hba
   | fixed l' =>
     refine⟨by simpa using hba.1,λq hq => ?_⟩;have hq':q<l'.length:=by simpa using hq
     have hm:some ⟨ty0,.fixed l'⟩∈σ.own:=by
      have hil:i<σ.own.length:=by
       rcases Ad i σ.own.length with h'|h'
       . exact h'
       simp[List.getD,Ab h']at h0
      have:σ.own[i]=some ⟨ty0,.fixed l'⟩:=by simpa [List.getD,hil]using h0
      rw[<-this]; exact Ax _
     have:=hrel (s:=l'.getD q .any) (λn c e=>z0h (g0m h2 ty0 l' hm) n c (by rw[<-e]; simp[List.getD,hq'])) (hba.2 q hq');simpa [List.getD,hq']using this
 . obtain⟨ob0,h0,hr0⟩:=hold i ob h hre; exact hc.lo i ob0 h0 hr0
 . obtain⟨g1,g2⟩:=hc.lent p hp;have hne:p.1≠id:=by intro h; rw[h,hk2]at g2; simp at g2
   exact⟨g1,by rw[hkne _ hne]; exact g2⟩
 . obtain⟨ob0,h0,hr0⟩:=hold i ob h hre; exact hc.out i ob0 h0 hr0
 . obtain⟨_,h1',hr1'⟩:=hold i ob1 g1 hr1;obtain⟨_,h2',hr2'⟩:=hold i' ob2 g2 hr2;exact hc.inj i i' _ _ h1' h2' hr1' hr2'
 . rw[hget]at h;split at h
   . exact absurd h (by simp)
   obtain⟨ob0,h0,e0⟩:=Bg.1 h;obtain⟨ty0,cs0⟩:=ob0;cases cs0 with
   | fixed l=>simp[d0m]at e0
   | dyn l=>simp[d0m]at e0
   | list l=>simp[d0m]at e0
   | reg m'=>rw[h0]; simp only[d0m]at e0; rw[<-e0]
 obtain⟨ob0,h0,hr0⟩:=hold i ob h hre; exact .inl ⟨i,ob0,h0,hr0,rfl⟩
theorem Conc.loose{B w0 σ V a w addr}(hc:Conc B w0 σ V a w addr){id:Nat}{ty:TypeId}{l:List Value}(hid:σ.own[id]?=some (some ⟨ty,.dyn l⟩))(hnB:∀p,p∈B->p.1≠id) :
 Conc B w0 (σ.loose id ty l) V a w addr:=by
 have hg:=N02 hid;have hlt:id<σ.own.length:=by
  rcases Ad id σ.own.length with h|h
  . exact h
  rw[Ab h]at hid; simp at hid
 have hk2:kind (σ.own.getD id none)=1:=by rw[hg]; rfl
 have hget:∀i,(σ.loose id ty l).own.getD i none=if i=id then some ⟨ty,.list l⟩else(σ.own.getD i none).map λob=>⟨ob.ty,f0m id ob.cs⟩:=by
  intro i;simp only[St.loose,List.getD,As,Bt];by_cases e:id=i
  . subst e; simp[hlt]
  have e':¬i=id:=λh=>e h.symm
  simp only[e,e',At9,Cd];cases σ.own[i]?<;>simp
 have hkne:∀i,i≠id->kind ((σ.loose id ty l).own.getD i none)=kind (σ.own.getD i none):=by
  intro i hi; rw[hget,if_neg hi];cases σ.own.getD i none with
  | none=>rfl
  | some ob=>obtain⟨ty,cs⟩:=ob; cases cs<;>rfl
 have hkid:kind ((σ.loose id ty l).own.getD id none)=2:=by rw[hget,if_pos rfl]; rfl
 have hrel:∀ {s:SV} {x:Value},Rel addr σ.own s x->Rel addr (σ.loose id ty l).own (e0m id s) x:=by
  intro s x h;have hn:∀ {i},kind (σ.own.getD i none)=2->i≠id:=by rintro i h rfl; rw[hk2]at h; simp at h
  cases s with
  | val v=>exact h
  | lit b=>exact h
  | own i off =>
    simp only[e0m];split
    . trivial
    rename_i e; exact⟨by rw[hkne i e]; exact h.1,h.2⟩
  | osl i off n c =>
    simp only[e0m];split
    . rename_i e; subst e;cases off with
      | zero=>exact⟨hkid,h.2⟩
      | succ k=>trivial
    rename_i e; exact⟨by rw[hkne i e]; exact h.1,h.2⟩
  | clo f ids =>
    simp only[e0m];split
    . trivial
    rename_i e;refine⟨λi hi => ?_,h.2⟩;have:i≠id:=by rintro rfl; exact e (by simpa using hi)
    rw[hkne i this]; exact h.1 i hi
  | lst i n c=>exact⟨by rw[hkne i (hn h.1)]; exact h.1,h.2⟩
  | tlst i n c r=>exact⟨by rw[hkne i (hn h.1)]; exact h.1,h.2⟩
  | les i n c=>exact⟨by rw[hkne i (hn h.1)]; exact h.1,h.2⟩
  | any=>trivial
 have hold:∀i ob,(σ.loose id ty l).own.getD i none=some ob->ob.cs.real->∃ob0,σ.own.getD i none=some ob0/\ob0.cs.real:=by
  intro i ob h hre;rw[hget]at h;split at h
  . rename_i e; subst e; exact⟨_,hg,trivial⟩
  obtain⟨ob0,h0,rfl⟩:=Bg.1 h;refine⟨ob0,h0,?_⟩;obtain⟨ty,cs⟩:=ob0;cases cs with
  | fixed l=>trivial
  | dyn l=>trivial
  | list l=>exact hre
  | reg m=>exact hre
 refine⟨by simp[St.loose,hc.size],by simp[St.loose,hc.osize],λi hi => ?_,hc.defers,λi ob h hre => ?_,λi ob h hre => ?_,λp hp => ?_,λi ob h hre => ?_,λi i' ob1 ob2 g1 g2 hr1 hr2 => ?_,hc.vin,hc.below,hc.fresh,
  hc.reg.step (λi ty m h => ?_) (λ_ _ _=>rfl) (λ_ _ h => .inl h) (λi ob h hre => ?_)⟩
 . have hi':i<σ.tm.length:=by simpa [St.loose]using hi
   have:=hrel (s:=σ.tm.getD i .any) (hc.rel i hi');simpa [St.loose,List.getD,hi']using this
 . have hh:=h;rw[hget]at h;split at h
   . rename_i e; subst e; cases h;obtain⟨arr,hw,hba⟩:=hc.blk i _ hg trivial;exact⟨arr,hw,hba⟩
   rename_i e;obtain⟨ob0,h0,rfl⟩:=Bg.1 h;obtain⟨ty0,cs0⟩:=ob0;have hre0:(⟨ty0,cs0⟩:OB).cs.real:=by cases cs0<;>first|trivial|exact hre
   obtain⟨arr,hw,hba⟩:=hc.blk i _ h0 hre0;refine⟨arr,hw,?_⟩;cases cs0 with
   | dyn l'=>exact hba
   | list l'=>exact hba
   | reg m=>exact hba
   | fixed l' =>
     refine⟨by simpa using hba.1,λq hq => ?_⟩;have hq':q<l'.length:=by simpa using hq
     have:=hrel (s:=l'.getD q .any) (hba.2 q hq');simpa [List.getD,hq']using this
 . obtain⟨ob0,h0,hr0⟩:=hold i ob h hre; exact hc.lo i ob0 h0 hr0
 . obtain⟨g1,g2⟩:=hc.lent p hp;have hne:p.1≠id:=hnB p hp;exact⟨g1,by rw[hkne _ hne]; exact g2⟩
 . obtain⟨ob0,h0,hr0⟩:=hold i ob h hre; exact hc.out i ob0 h0 hr0
 . obtain⟨_,h1',hr1'⟩:=hold i ob1 g1 hr1;obtain⟨_,h2',hr2'⟩:=hold i' ob2 g2 hr2;exact hc.inj i i' _ _ h1' h2' hr1' hr2'
 . rw[hget]at h;split at h
   . exact absurd h (by simp)
   obtain⟨ob0,h0,e0⟩:=Bg.1 h;obtain⟨ty0,cs0⟩:=ob0;cases cs0 with
   | fixed l=>simp[f0m]at e0
   | dyn l=>simp[f0m]at e0
   | list l=>simp[f0m]at e0
   | reg m'=>rw[h0]; simp only[f0m]at e0; rw[<-e0]
 obtain⟨ob0,h0,hr0⟩:=hold i ob h hre; exact .inl ⟨i,ob0,h0,hr0,rfl⟩
theorem Conc.flat{B w0 σ V a w addr}(hc:Conc B w0 σ V a w addr){id:Nat}{ty:TypeId}{l:List SV}{vs:List Value}(hid:σ.own[id]?=some (some ⟨ty,.fixed l⟩))(hv:S07 l=some vs) :
 Conc B w0 (σ.setOwn id (some ⟨ty,.dyn vs⟩)) V a w addr:=by
 have hg:=N02 hid;have hlt:id<σ.own.length:=by
  rcases Ad id σ.own.length with h|h
  . exact h
  rw[Ab h]at hid; simp at hid
 have hget:∀i,(σ.setOwn id (some ⟨ty,.dyn vs⟩)).own.getD i none=if i=id then some ⟨ty,.dyn vs⟩else σ.own.getD i none:=by
  intro i;simp only[St.setOwn,List.getD,As];by_cases e:id=i
  . subst e; simp[hlt]
  have e':¬i=id:=λh=>e h.symm
  simp[e,e']
 have hkd:∀i,kind ((σ.setOwn id (some ⟨ty,.dyn vs⟩)).own.getD i none)=kind (σ.own.getD i none):=by
  intro i; rw[hget];split
  . rename_i e; subst e; rw[hg]; rfl
  rfl
 have hmono:∀i,kind (σ.own.getD i none)≠0->kind ((σ.setOwn id (some ⟨ty,.dyn vs⟩)).own.getD i none)=kind (σ.own.getD i none)/\addr i=addr i:=λi _=>⟨hkd i,rfl⟩
 have hold:∀i ob,(σ.setOwn id (some ⟨ty,.dyn vs⟩)).own.getD i none=some ob->ob.cs.real->∃ob0,σ.own.getD i none=some ob0/\ob0.cs.real:=by
  intro i ob h hre;rw[hget]at h;split at h
  . rename_i e; subst e; exact⟨_,hg,trivial⟩
  exact⟨ob,h,hre⟩
 refine⟨by simp[St.setOwn,hc.size],by simp[St.setOwn,hc.osize],λi hi=>Gy hmono (hc.rel i hi),hc.defers,λi ob h hre => ?_,λi ob h hre => ?_,λp hp => ?_,λi ob h hre => ?_,λi i' ob1 ob2 g1 g2 hr1 hr2 => ?_,hc.vin,hc.below,hc.fresh,
  hc.reg.step (λi ty m h => ?_) (λ_ _ _=>rfl) (λ_ _ h => .inl h) (λi ob h hre => ?_)⟩
 . rw[hget]at h;split at h
   . rename_i e; subst e; cases h;obtain⟨arr,hw,hba⟩:=hc.blk i _ hg trivial;exact⟨arr,hw,Q0f hv hba⟩
   obtain⟨arr,hw,hba⟩:=hc.blk i _ h hre;exact⟨arr,hw,Gz hmono hba⟩
 . obtain⟨ob0,h0,hr0⟩:=hold i ob h hre; exact hc.lo i ob0 h0 hr0
 . obtain⟨g1,g2⟩:=hc.lent p hp;exact⟨g1,by rw[hkd]; exact g2⟩
 . obtain⟨ob0,h0,hr0⟩:=hold i ob h hre; exact hc.out i ob0 h0 hr0
 . obtain⟨_,h1',hr1'⟩:=hold i ob1 g1 hr1;obtain⟨_,h2',hr2'⟩:=hold i' ob2 g2 hr2;exact hc.inj i i' _ _ h1' h2' hr1' hr2'
 . rw[hget]at h;split at h
   . exact absurd h (by simp)
   exact h
 obtain⟨ob0,h0,hr0⟩:=hold i ob h hre; exact .inl ⟨i,ob0,h0,hr0,rfl⟩
section sound
variable {P:Program} {Shp:l04} {Bl:List Nat} {B:List (Nat×Nat)} {w0:Base}
theorem k0p{ops:Array Oper}{K:St->View->Prop}{V0:View}{Q:Exit->Act->World->Prop}(hK:∀σ' V' a' w' addr',View.le V0 V'->Conc B w0 σ' V' a' w' addr'->K σ' V'->Q .normal a' w') :
 ∀(l:List Oper) (ans:List An) (σ:St) (V:View) (a:Act) (w:World) (addr:Nat->Nat),View.le V0 V->l.length=ans.length->Conc B w0 σ V a w addr ->
  O0f P Shp ops (l.zip ans) σ V K->wpList P ops Q l a w
 | [],_,σ,V,a,w,addr,hle,_,hc,h=>hK _ _ _ _ _ hle hc (by simpa [O0f]using h)
 | o::l,[],_,_,_,_,_,_,hlen,_,_=>by simp at hlen
 | o::l,an::ans,σ,V,a,w,addr,hle,hlen,hc,h=>by
   simp only[List.zip_cons_cons,O0f]at h;have:=z0j (N:=wpList P ops Q l) (Q:=Q) hc (λσ' V' a' w' addr' hle' hc' hk=>k0p hK l ans σ' V' a' w' addr' (Gx hle hle') (by simpa using hlen) hc' hk) h;exact this
theorem x0g(hm:P.follows .mixedOrders=true)(hB:B.map (·.1)=Bl)(hA:Bl=[]->w0.A=[]):∀(ac:AC) (c:Code) (σ:St) (V:View) (Q:Exit->St->View->Prop),vc P Shp Bl ac c σ V Q ->
 ∀(a:Act) (w:World) (addr:Nat->Nat),Conc B w0 σ V a w addr->c.wp P (O0z B w0 V Q) a w:=by
 intro ac
 induction ac with
 | leaf =>
   intro c σ V Q h a w addr hc;simp only[vc]at h;split at h
   . exact wp_skip ⟨σ,V,addr,Gw V,hc,h⟩
   . exact wp_exit ⟨σ,V,addr,Gw V,hc,h⟩
   . exact wp_ret ⟨σ,V,addr,Gw V,hc,h⟩
   exact h.elim
 | reg ans =>
   intro c σ V Q h a w addr hc;simp only[vc]at h;split at h
   . split at h
     . rename_i hlen;have hlen:=Aj hlen;refine wp_region_list (k0p (V0:=V) (λσ' V' a' w' addr' hle hc' hk=>⟨σ',V',addr',hle,hc',hk⟩) _ ans σ V a w addr (Gw V) (by simp[hlen]) hc h)
     exact h.elim
   exact h.elim
 | draw canon masks =>
   intro c σ V Q h a w addr hc;simp only[vc]at h;split at h
   . rename_i id ops;split at h
     . rename_i hok;refine wp_region_any hm ?_;have hw:({ w with drawn:=w.drawn+1 }:World)=w.drew:=rfl;rw[hw];obtain⟨hcl,hnd,hall,hlt,hpr,hmask,hpw⟩:=H0j hok;let K:St->View->Prop:=λσ' V'=>Q .normal σ' V'/\View.le V V'
       have hK:O0f P Shp ops ((i08 ops canon).map (·.2)) σ V K:=a0m hc.vin.fin (λσ' V' hle _ hq=>⟨hq,hle⟩) h;refine I0u hok (K:=K) (λσ' V' a' w' addr' hc' hk=>⟨σ',V',addr',hk.2,hc',hk.1⟩) ops.size _ (i08 ops canon) σ V a w.drew addr hc.drew ?_ ?_ hK
       . have hmapf:(i08 ops canon).map (·.1)=canon.map (·.1):=by simp[i08]
         refine⟨by simp,List.Sublist.refl _,λi hi => ?_,λi hi => ?_⟩
         . rw[hmapf];have:=hall i hi;constructor
           . intro hh; simp[Ai,hi]at hh
           intro hh; exact absurd this hh
         by_cases hi':i<ops.size
         . simp[Ai,hi']at hi
         simp[Ai,hi']at hi
       simp[i08,hcl]
     exact h.elim
   exact h.elim
 | seq x y ihx ihy =>
   intro c σ V Q h a w addr hc;simp only[vc]at h;split at h
   . refine wp_seq (wp_mono (ihx _ _ _ _ h a w addr hc) λe a' w' hq => ?_);obtain⟨σ',V',addr',hle,hc',hk⟩:=hq;cases e with
     | normal=>exact wp_mono (ihy _ _ _ _ hk a' w' addr' hc') λe a2 w2 hq2=>hq2.le hle
     | _=>exact⟨σ',V',addr',hle,hc',hk⟩
   exact h.elim
 | cut γ α get st I x y ihx ihy =>
   intro c σ V Q h a w addr hc;simp only[vc]at h;split at h
   . obtain⟨h1,h2⟩:=h;refine wp_seq (wp_mono (ihx _ _ _ _ h1 a w addr hc) λe a' w' hq => ?_);obtain⟨σ',V',addr',hle,hc',hk⟩:=hq;cases e with
     | normal =>
       obtain⟨x1,hf,hi⟩:=hk;have:=h2 x1 V' hle hi;split at this
       . rename_i hwf;exact wp_mono (ihy _ _ _ _ this a' w' addr' (hc'.fits hf hB hwf)) λe a2 w2 hq2=>hq2.le hle
       exact this.elim
     | _=>exact⟨σ',V',addr',hle,hc',hk⟩
   exact h.elim
 | cond x y ihx ihy =>
   intro c σ V Q h a w addr hc;simp only[vc]at h;split at h
   . rename_i t cx cy;have hr:=hc.eval t;split at h
     . rename_i ht; rw[ht]at hr; exact wp_cond_true hr (ihx _ _ _ _ h a w addr hc)
     . rename_i ht; rw[ht]at hr; exact wp_cond_false hr (ihy _ _ _ _ h a w addr hc)
     . rename_i g ht;rw[ht]at hr;exact wp_cond_split hr (λhg=>ihx _ _ _ _ (h.1 hg) a w addr hc) (λhg=>ihy _ _ _ _ (h.2 hg) a w addr hc)
     exact h.elim
   exact h.elim
 | block x ihx =>
   intro c σ V Q h a w addr hc;simp only[vc]at h;split at h
   . rename_i id cx;refine wp_block (wp_mono (ihx _ _ _ _ h a w addr hc) λe a' w' hq => ?_);obtain⟨σ',V',addr',hle,hc',hk⟩:=hq;cases e with
     | exit id' =>
       simp only[Exit.inBlock];simp only at hk;split at hk
       . rename_i hid;have hid:=Aj hid;rw[if_pos hid]; exact⟨σ',V',addr',hle,hc',hk⟩
       rename_i hid;rw[if_neg (by rintro rfl; simp at hid)]; exact⟨σ',V',addr',hle,hc',hk⟩
     | _=>exact⟨σ',V',addr',hle,hc',hk⟩
   exact h.elim
 | loop γ α get st I μ x ihx =>
   intro c σ V Q h a w addr hc;simp only[vc]at h;split at h
   . rename_i cx;obtain⟨⟨x0,hf0,hi0⟩,hround⟩:=h;have hwf:∀x1 V1,V.le V1->I (get σ) x1 V1->wfB Bl (st (get σ) x1)=true:=by
      intro x1 V1 hle hi;have:=hround x1 V1 hle hi;split at this
      . rename_i hwf; exact hwf
      exact this.elim
     refine y0n (α:=α×View) (λx1 a' w'=>∃addr1,View.le V x1.2/\I (get σ) x1.1 x1.2/\Conc B w0 (st (get σ) x1.1) x1.2 a' w' addr1) (λx=>μ (get σ) x.1 x.2) (x0,V)
      ⟨addr,Gw V,hi0,hc.fits hf0 hB (hwf x0 V (Gw V) hi0)⟩ ?_
     rintro⟨x1,V1⟩ a1 w1 ⟨addr1,hle1,hi1,hc1⟩;have hr:=hround x1 V1 hle1 hi1;split at hr
     . refine wp_mono (ihx _ _ _ _ hr a1 w1 addr1 hc1) λe a2 w2 hq => ?_;obtain⟨σ',V',addr',hle',hc',hk⟩:=hq;cases e with
       | normal =>
         obtain⟨x2,hf2,hi2,hμ⟩:=hk;exact⟨(x2,V'),⟨addr',Gx hle1 hle',hi2,hc'.fits hf2 hB (hwf x2 V' (Gx hle1 hle') hi2)⟩,hμ⟩
       | _=>exact⟨σ',V',addr',Gx hle1 hle',hc',hk⟩
     exact hr.elim
   exact h.elim
 | pub id x ihx =>
   intro c σ V Q h a w addr hc;simp only[vc]at h;split at h
   . rename_i ob hob;split at h
     . rename_i l hl hnl;have hBl:Bl=[]:=by simpa using hnl
       have hB0:B=[]:=by rw[hBl]at hB; simpa using hB
       obtain⟨V',hle,hV',hc'⟩:=hc.pub hB0 (hA hBl) hob hl;exact wp_mono (ihx _ _ _ _ (h _ V' hle hV') a w addr hc') λe a2 w2 hq2=>hq2.le hle
     exact h.elim
   exact h.elim
 | newR r ty x ihx =>
   intro c σ V Q h a w addr hc;simp only[vc]at h;split at h
   . rename_i hr hall;have hno:∀id ty m,σ.own.getD id none=some ⟨ty,.reg m⟩->id=r:=by
      intro id ty' m hm;have hlt:id<σ.own.length:=by
       rcases Ad id σ.own.length with g|g
       . exact g
       simp[List.getD,Ab g]at hm
      have:=Bk9.1 hall (σ.own[id]) (Ax _);have e:σ.own[id]=some ⟨ty',.reg m⟩:=by simpa [List.getD,hlt]using hm
      rw[e]at this;simp at this
     exact ihx _ _ _ _ h a w addr (hc.setReg (z0w hr) (.inl (by rw[N02 hr]; rfl)) hno (λb cs hm=>by simp at hm))
   exact h.elim
 | giveR id r x ihx =>
   intro c σ V Q h a w addr hc;simp only[vc]at h;split at h
   . rename_i ob ty m hob hr;split at h
     . rename_i l hl hnl;have hBl:Bl=[]:=by simpa using hnl
       have hB0:B=[]:=by rw[hBl]at hB; simpa using hB
       have hg:=N02 hob;have hgr:=N02 hr;have hp:ob.cs.real/\(∀b:Nat,m b=none->V b=none->vc P Shp Bl x c ((σ.pubAt id b).setOwn r (some ⟨ty,.reg (I00 m b l.toArray)⟩)) V Q):=by
        revert h; unfold c14;cases hcs:ob.cs with
        | fixed l=>exact λh=>⟨trivial,h⟩
        | dyn l=>exact λh=>⟨trivial,h⟩
        | list l=>exact λh=>⟨h.1,h.2⟩
        | reg m=>rw[hcs]at hl; simp[cellsOf]at hl
       obtain⟨hre,h⟩:=hp;have hc1:=hc.named hB0 (hA hBl) hob hl V (Gw V) (λb cs h => .inl h);have hne:r≠id:=by
        rintro rfl; rw[hob]at hr; cases hr; exact absurd hre (λh=>h)
       have hr1:(σ.pubAt id (addr id)).own[r]?=some (some ⟨ty,.reg m⟩):=by
        simp only[St.pubAt];rw[Cr (λe=>hne e.symm),Cd,hr]; rfl
       obtain⟨arr,hw,hba⟩:=hc.blk id ob hg hre;have harr:arr=l.toArray:=by
        obtain⟨ty,cs⟩:=ob;cases cs with
        | dyn l'=>simp[cellsOf]at hl; subst hl; exact hba
        | list l'=>simp[cellsOf]at hl; subst hl; exact hba
        | reg m=>simp[cellsOf]at hl
        | fixed l'=>exact Q0f hl hba
       rw[harr]at hw;have hmn:m (addr id)=none:=by
        cases e:m (addr id)with
        | none=>rfl
        | some cs=>exact absurd rfl ((hc.reg.at_ r ty m hgr _ cs e).2.2.2 id ob hg hre)
       have hc2:=hc1.addReg hr1 hw (by
        rcases hc.lo id ob hg hre with g|g
        . exact .inl g
        . rw[hA hBl,hB0]at g; simp at g) (hc.out id ob hg hre) (λi ob' hi hre'=>by
        have hget:(σ.pubAt id (addr id)).own.getD i none=if i=id then none else(σ.own.getD i none).map λob=>⟨ob.ty,m0i id (addr id) ob.cs⟩:=by
         simp only[St.pubAt,List.getD,As,Bt];by_cases e:id=i
         . subst e; simp; split<;>rfl
         have e':¬i=id:=λh=>e h.symm
         simp only[e,e',At9,Cd];cases σ.own[i]?<;>simp
        rw[hget]at hi;split at hi
        . simp at hi
        rename_i e;obtain⟨ob0,h0,rfl⟩:=Bg.1 hi;have hre0:ob0.cs.real:=by
         obtain⟨ty0,cs0⟩:=ob0;cases cs0<;>first|trivial|exact hre'
        exact λhe=>e (hc.inj i id ob0 ob h0 hg hre0 hre he))
       exact ihx _ _ _ _ (h (addr id) hmn (hc.out id ob hg hre)) a w addr hc2
     exact h.elim
   exact h.elim
 | pubR r x ihx =>
   intro c σ V Q h a w addr hc;simp only[vc]at h;split at h
   . rename_i ty m hr;obtain⟨V',hle,hV',hc'⟩:=hc.pubReg hr h.1;exact wp_mono (ihx _ _ _ _ (h.2 V' hle hV') a w addr hc') λe a2 w2 hq2=>hq2.le hle
   exact h.elim
 | adopt t id ty x ihx =>
   intro c σ V Q h a w addr hc;simp only[vc]at h;split at h
   . rename_i ht hid;obtain⟨addr',hc'⟩:=hc.adopt ty ht hid;exact ihx _ _ _ _ h a w addr' hc'
   exact h.elim
 | adoptC b j id ty x ihx =>
   intro c σ V Q h a w addr hc;simp only[vc]at h;split at h
   . rename_i tb l hb hid;split at h
     . rename_i hj;obtain⟨addr',hc'⟩:=hc.adoptC ty hb hj hid;exact ihx _ _ _ _ h a w addr' hc'
     exact h.elim
   exact h.elim
 | solid id x ihx =>
   intro c σ V Q h a w addr hc;simp only[vc]at h;split at h
   . rename_i ty l hid;exact ihx _ _ _ _ h.2 a w addr (hc.solid hid h.1.1 h.1.2.1 h.1.2.2)
   exact h.elim
 | loose id x ihx =>
   intro c σ V Q h a w addr hc;simp only[vc]at h;split at h
   . rename_i ty l hid hall;refine ihx _ _ _ _ h a w addr (hc.loose hid λp hp e => ?_);have:=Bk9.1 hall p.1 (by rw[<-hB]; exact Bc.2 ⟨p,hp,rfl⟩);rw[e]at this; simp at this
   exact h.elim
 | flat id x ihx =>
   intro c σ V Q h a w addr hc;simp only[vc]at h;split at h
   . rename_i ty l hid;split at h
     . rename_i vs hv;exact ihx _ _ _ _ h a w addr (hc.flat hid hv)
     exact h.elim
   exact h.elim
end sound
def st0(n:Nat)(args:List Value):St:={ tm:=args.map .val++List.replicate (n-args.length) .any,own:=List.replicate (args.length+(n-args.length)) none }
def i07(P:Program)(σ:St)(rv:ResultVar)(k:Value->Prop):Prop :=
 match rv with
 | .tmp t=>match (σ.tm.getD t .any).asVal with
   | some v=>k v
   | none=>False
 | .cell p ty=>match σ.tm.getD p .any with
   | .own id off => match σ.own.getD id none with
     | some ob => match ob.cs, q0n P ty, Q07 P ty with
       | .fixed l, some true, some n => match S07 ((l.drop off).take n), Nat.ble (off + n) l.length with
         | some vs,true=>k (.agg vs.toArray)
         | _,_=>False
       | _,_,_=>False
     | none=>False
   | _=>False
def retQ(P:Program)(fn:Func)(R:Value->View->Prop)(e:Exit)(σ:St)(V:View):Prop :=
 match e with
 | .ret | .normal =>
   match fn.results.toList with
   | []=>R (.tuple #[]) V
   | [r1]=>i07 P σ r1 λv=>R v V
   | [r1,r2]=>i07 P σ r1 λv1=>i07 P σ r2 λv2=>R (.tuple #[v1,v2]) V
   | [r1,r2,r3]=>i07 P σ r1 λv1=>i07 P σ r2 λv2=>i07 P σ r3 λv3=>R (.tuple #[v1,v2,v3]) V
   | [r1,r2,r3,r4]=>i07 P σ r1 λv1=>i07 P σ r2 λv2=>i07 P σ r3 λv3=>i07 P σ r4 λv4=>R (.tuple #[v1,v2,v3,v4]) V
   | _=>False
 | _=>False
def y0g(tmps:Array Value):ResultVar->Sem Value
 | .tmp t=>pure (tmps.getD t undef)
 | .cell p ty=>do loadVar ty (<-asAddr (tmps.getD p undef))
theorem m08(fn:Func)(tmps:Array Value):results fn tmps=(do
 let vs <-fn.results.mapM (y0g tmps)
 pure (if h:vs.size=1 then vs[0]else .tuple vs)):=by
 unfold results;congr 2
theorem J05{P:Program}{B w0 σ V a w addr}(hc:Conc B w0 σ V a w addr){rv:ResultVar}{k:Value->Prop}(h:i07 P σ rv k) :
 ∃v,k v/\(y0g a.tmps rv).run P w = .ok v w:=by
 unfold i07 at h;split at h
 . rename_i t;split at h
   . rename_i v hv;have hr:=hc.eval (.tmp t);simp only[St.ev,Act.eval]at hr;refine⟨v,h,?_⟩;simp only[y0g,Sem.run_pure];rw[hr.asVal hv]
   exact h.elim
 rename_i p ty;have hr:=hc.eval (.tmp p);simp only[St.ev,Act.eval]at hr;split at h
 . rename_i id off hp;rw[hp]at hr;simp only[Rel]at hr;split at h
   . rename_i ob hob;split at h
     . rename_i l n hcs ha hs;obtain⟨arr,hw,hba⟩:=hc.blk id ob hob (by rw[hcs]; trivial);rw[hcs]at hba;split at h
       . rename_i vs hvs hle;have hle:=Dv hle;obtain⟨hlen,hget⟩:=p09 hvs;have hn:vs.length=n:=by rw[hlen]; simp; omega
         refine⟨_,h,?_⟩;simp only[y0g,hr.2,asAddr,Sem.run_bind,Sem.run_pure,Result.andThen_ok];refine n07 ha (by rw[hn]; exact hs) ?_;intro j v hv;obtain⟨s,hs1,hs2⟩:=hget j v hv;have hj:j<n:=by
          rcases Ad j vs.length with h|h
          . omega
          rw[Ab h]at hv; simp at hv
         have hs1':l[off+j]?=some s:=by
          rw[Bo hj,Da]at hs1; exact hs1
         have hlt:off+j<l.length:=by omega
         have hrel:=hba.2 (off+j) hlt;have e1:l.getD (off+j) .any=s:=by simp[List.getD,hs1']
         rw[e1]at hrel;have:=hrel.asVal hs2;refine n0g hw ?_;rw[Bw (by rw[hba.1]; exact hlt)];rw[<-this];have h2:off+j<arr.size:=by rw[hba.1]; exact hlt
         simp[Ai,h2]
       exact h.elim
     exact h.elim
   exact h.elim
 exact h.elim
theorem J0j{P:Program}{fn:Func}{R:Value->View->Prop}{B w0 σ V a w addr}(hc:Conc B w0 σ V a w addr){e:Exit}(h:retQ P fn R e σ V) :
 (e = .ret\/e = .normal)/\∃v,(results fn a.tmps).run P w = .ok v w/\R v V:=by
 have hres:∀l,fn.results.toList=l->fn.results=l.toArray:=λl hl=>by apply Bv; simpa using hl
 have main:∀(hm:(match fn.results.toList with
  | []=>R (.tuple #[]) V
  | [r1]=>i07 P σ r1 λv=>R v V
  | [r1,r2]=>i07 P σ r1 λv1=>i07 P σ r2 λv2=>R (.tuple #[v1,v2]) V
  | [r1,r2,r3]=>i07 P σ r1 λv1=>i07 P σ r2 λv2=>i07 P σ r3 λv3=>R (.tuple #[v1,v2,v3]) V
  | [r1,r2,r3,r4]=>i07 P σ r1 λv1=>i07 P σ r2 λv2=>i07 P σ r3 λv3=>i07 P σ r4 λv4=>R (.tuple #[v1,v2,v3,v4]) V
  | _=>False)),∃v,(results fn a.tmps).run P w = .ok v w/\R v V:=by
  intro hm;split at hm
  . rename_i hl;exact⟨_,by simp[m08,hres _ hl],hm⟩
  . rename_i r1 hl;obtain⟨v,hk,hr⟩:=J05 hc hm;exact⟨v,by simp[m08,hres _ hl,hr],hk⟩
  . rename_i r1 r2 hl;obtain⟨v1,hk1,hr1⟩:=J05 hc hm;obtain⟨v2,hk2,hr2⟩:=J05 hc hk1;exact⟨_,by simp[m08,hres _ hl,hr1,hr2],hk2⟩
  . rename_i r1 r2 r3 hl;obtain⟨v1,hk1,hr1⟩:=J05 hc hm;obtain⟨v2,hk2,hr2⟩:=J05 hc hk1;obtain⟨v3,hk3,hr3⟩:=J05 hc hk2;exact⟨_,by simp[m08,hres _ hl,hr1,hr2,hr3],hk3⟩
  . rename_i r1 r2 r3 r4 hl;obtain⟨v1,hk1,hr1⟩:=J05 hc hm;obtain⟨v2,hk2,hr2⟩:=J05 hc hk1;obtain⟨v3,hk3,hr3⟩:=J05 hc hk2;obtain⟨v4,hk4,hr4⟩:=J05 hc hk3;exact⟨_,by simp[m08,hres _ hl,hr1,hr2,hr3,hr4],hk4⟩
  exact hm.elim
 unfold retQ at h;split at h
 . exact⟨.inl rfl,main h⟩
 . exact⟨.inr rfl,main h⟩
 exact h.elim
theorem b00{P:Program}{Shp:l04}{f:FuncId}{fn:Func}{c:Code}{args:List Value}{V:View}{R:Value->View->Prop}(hm:P.follows .mixedOrders=true)
 (hf:P.funcs[f]?=some fn) (hb:fn.body=some c) (ac:AC) (h:vc P Shp [] ac c (st0 fn.ntmps args) V (retQ P fn R)):a00 P f args.toArray V R:=by
 intro w hw;refine calls_of_wp hf hb ?_;let a0:Act:={ tmps:=args.toArray++Array.replicate (fn.ntmps-args.toArray.size) undef,defers:=[] };have hc:Conc [] ⟨w,V,[],[]⟩ (st0 fn.ntmps args) V a0 w (λ_=>0):=by
  refine⟨by simp[a0,st0],by simp[st0],λi hi => ?_,rfl,λid ob h => ?_,λid ob h => ?_,λp hp=>by simp at hp,λid ob h => ?_,λid id' ob ob' h => ?_,hw,B05.refl _ _,O05 _ _,.none λid ty m h => ?_⟩
  . simp only[st0,Be,Bt,Ek]at hi;by_cases h1:i<args.length
    . simp[a0,st0,List.getD,Ai,Bp,h1,Rel,Dh]
    have:(st0 fn.ntmps args).tm.getD i .any = .any:=by
      have h2:i-args.length<fn.ntmps-args.length:=by omega
      simp[st0,List.getD,Bp,h1,h2]
    rw[this]; trivial
  all_goals
   exfalso;simp only[st0,List.getD,Dd]at h;split at h<;>simp at h
 refine wp_mono (x0g (w0:=⟨w,V,[],[]⟩) hm rfl (λ_=>rfl) ac c _ V _ h a0 w _ hc) λe a' w' hq => ?_;obtain⟨σ',V',addr',hle,hc',hk⟩:=hq;obtain⟨he,v,hrun,hR⟩:=J0j hc' hk;rcases he with rfl|rfl
 . exact⟨hc'.defers,v,hrun,v,V',rfl,hle,hc'.vin,hc'.fresh,hc'.below.below,hR⟩
 exact⟨hc'.defers,v,hrun,v,V',rfl,hle,hc'.vin,hc'.fresh,hc'.below.below,hR⟩
def st0D(n:Nat)(ty:TypeId)(l:List Value)(off len cap:Nat)(args:List Value):St :=
 { tm := .osl 0 off len cap::(args.map .val++List.replicate (n-(args.length+1)) .any),own:=some ⟨ty,.dyn l⟩::List.replicate (args.length+(n-(args.length+1))) none }
def e14(P:Program)(fn:Func)(ty:TypeId)(R:Value->List Value->View->Prop)(e:Exit)(σ:St)(V:View):Prop :=
 match σ.own[(0:Nat)]? with
 | some (some ⟨ty',.dyn l'⟩)=>match Nat.beq ty' ty with
   | true=>retQ P fn (λv V=>R v l' V) e σ V
   | false=>False
 | _=>False
theorem l0p{P:Program}{Shp:l04}{f:FuncId}{fn:Func}{c:Code}{args:List Value}{ty:TypeId}{l:List Value}{off len cap:Nat}{V:View}{R:Value->List Value->View->Prop}
 (hm:P.follows .mixedOrders=true) (hf:P.funcs[f]?=some fn) (hb:fn.body=some c) (ac:AC) (h:vc P Shp [0] ac c (st0D fn.ntmps ty l off len cap args) V (e14 P fn ty R)) :
 p0n P f (λb => .slice (some ⟨b,off,none⟩) len cap::args) ty l V R:=by
 intro w b hw hwb hVb;refine calls_of_wp hf hb ?_;let xs:List Value := .slice (some ⟨b,off,none⟩) len cap::args;let a0:Act:={ tmps:=xs.toArray++Array.replicate (fn.ntmps-xs.toArray.size) undef,defers:=[] };have hown:∀id ob,(st0D fn.ntmps ty l off len cap args).own.getD id none=some ob->id=0/\ob=⟨ty,.dyn l⟩:=by
  intro id ob h;cases id with
  | zero=>simp[st0D]at h; exact⟨rfl,h.symm⟩
  | succ id =>
    simp only[st0D,List.getD,Fv,Dd]at h;split at h<;>simp at h
 have hblt:b<w.heap.size:=by
  rcases Ad b w.heap.size with h|h
  . exact h
  rw[Au h]at hwb; simp at hwb
 have hc:Conc [(0,b)] ⟨w,V,[],[]⟩ (st0D fn.ntmps ty l off len cap args) V a0 w (λ_=>b):=by
  refine⟨by simp[a0,xs,st0D]; omega,by simp[st0D],λi hi => ?_,rfl,λid ob h _ => ?_,λid ob h _ => ?_,λp hp => ?_,λid ob h _ => ?_,λid id' ob ob' h h' _ _ _ => ?_,hw,B05.refl _ _,O05 _ _,.none λid ty m h=>absurd (hown id _ h).2 (by simp)⟩
  . cases i with
    | zero=>simp[a0,xs,st0D,Rel,Dh]
    | succ i =>
      simp only[st0D,Db,Be,Bt,Ek]at hi;by_cases h1:i<args.length
      . simp[a0,xs,st0D,List.getD,Ai,Bp,h1,Rel,Dh]
      have:(st0D fn.ntmps ty l off len cap args).tm.getD (i+1) .any = .any:=by
        have h2:i-args.length<fn.ntmps-(args.length+1):=by omega
        simp[st0D,List.getD,Bp,h1,h2]
      rw[this]; trivial
  . obtain⟨rfl,rfl⟩:=hown id ob h; exact⟨_,hwb,rfl⟩
  . exact .inr (by simp)
  . simp at hp; subst hp; exact⟨rfl,by simp[st0D]⟩
  . exact hVb
  rw[(hown _ _ h).1,(hown _ _ h').1]
 refine wp_mono (x0g (w0:=⟨w,V,[],[]⟩) hm rfl (λ_=>rfl) ac c _ V _ h a0 w _ hc) λe a' w' hq => ?_;obtain⟨σ',V',addr',hle,hc',hk⟩:=hq;unfold e14 at hk;split at hk
 . rename_i ty' l' hob;split at hk
   . rename_i hty;have hty:=Aj hty;subst hty;obtain⟨he,v,hrun,hR⟩:=J0j hc' hk;have hg:=N02 hob;obtain⟨arr,hw',hba⟩:=hc'.blk 0 _ hg trivial;simp only[X06]at hba;subst hba;have haddr:=(hc'.lent (0,b) (by simp)).1;simp only at haddr;rw[haddr]at hw';have hn:=hc'.out 0 _ hg trivial;rw[haddr]at hn;rcases he with rfl|rfl
     . exact⟨hc'.defers,v,hrun,v,V',l',rfl,hle,hc'.vin,hc'.fresh,by simpa using hc'.below,hw',hn,hR⟩
     exact⟨hc'.defers,v,hrun,v,V',l',rfl,hle,hc'.vin,hc'.fresh,by simpa using hc'.below,hw',hn,hR⟩
   exact hk.elim
 exact hk.elim
def st0R(n r:Nat)(m:View)(args:List Value):St:=(st0 n args).setOwn r (some ⟨1,.reg m⟩)
def f14(P:Program)(fn:Func)(r:Nat)(R:Value->View->View->Prop)(e:Exit)(σ:St)(V:View):Prop :=
 match σ.own[r]? with
 | some (some ⟨_,.reg m'⟩)=>retQ P fn (λv V=>R v m' V) e σ V
 | _=>False
theorem L0i{m:View}{n b:Nat}:b∈m.dom n↔b<n/\m b≠none:=by
 simp[View.dom,Option.isSome_iff_ne_none]
theorem Y05{P:Program}{Shp:l04}{f:FuncId}{fn:Func}{c:Code}{args:List Value}{r:Nat}{m V:View}{R:Value->View->View->Prop}(hm:P.follows .mixedOrders=true)
 (hf:P.funcs[f]?=some fn) (hb:fn.body=some c) (hr:Nat.ble (r+1) (args.length+(fn.ntmps-args.length))=true) (ac:AC) (h:vc P Shp [] ac c (st0R fn.ntmps r m args) V (f14 P fn r R)):f03 P f args.toArray m V R:=by
 intro w hw hlies;refine calls_of_wp hf hb ?_;let a0:Act:={ tmps:=args.toArray++Array.replicate (fn.ntmps-args.toArray.size) undef,defers:=[] };have hlt:r<(st0 fn.ntmps args).own.length:=by
  have:=Dv hr;simp[st0]; omega
 have hget:=w0h (σ:=st0 fn.ntmps args) hlt (some ⟨1,.reg m⟩);have hown:∀id ob,(st0R fn.ntmps r m args).own.getD id none=some ob->id=r/\ob=⟨1,.reg m⟩:=by
  intro id ob h;unfold st0R at h;rw[hget]at h;split at h
  . rename_i e; cases h; exact⟨e,rfl⟩
  simp only[st0,List.getD,Dd]at h;split at h<;>simp at h
 have hnr:∀id ob,(st0R fn.ntmps r m args).own.getD id none=some ob->ob.cs.real->False:=by
  intro id ob h hre;obtain⟨_,rfl⟩:=hown id ob h;exact hre
 have hc:Conc [] ⟨w,V,[],m.dom w.heap.size⟩ (st0R fn.ntmps r m args) V a0 w (λ_=>0):=by
  refine⟨by simp[a0,st0R,St.setOwn,st0],by simp[st0R,St.setOwn,st0],λi hi => ?_,rfl,λid ob h hre=>(hnr id ob h hre).elim,λid ob h hre=>(hnr id ob h hre).elim,λp hp=>by simp at hp,
   λid ob h hre=>(hnr id ob h hre).elim,λid id' ob ob' h _ hre _ _=>(hnr id ob h hre).elim,hw,B05.refl _ _,O05 _ _,⟨λid ty m1 h b cs hb' => ?_,λid id' ty ty' m1 m2 h1 h2 => ?_⟩⟩
  . simp only[st0R,St.setOwn,st0,Be,Bt,Ek]at hi;by_cases h1:i<args.length
    . simp[a0,st0R,St.setOwn,st0,List.getD,Ai,Bp,h1,Rel,Dh]
    have:(st0R fn.ntmps r m args).tm.getD i .any = .any:=by
      have h2:i-args.length<fn.ntmps-args.length:=by omega
      simp[st0R,St.setOwn,st0,List.getD,Bp,h1,h2]
    rw[this]; trivial
  . obtain⟨rfl,e⟩:=hown id _ h;cases e;obtain⟨⟨T,hT⟩,hV⟩:=hlies b cs hb';refine⟨⟨T,hT⟩,.inr ⟨rfl,L0i.2 ⟨?_,by rw[hb']; simp⟩⟩,hV,λi ob hi hre=>(hnr i ob hi hre).elim⟩;refine Em λc => ?_;rw[Au c]at hT; exact absurd hT (by simp)
  rw[(hown _ _ h1).1,(hown _ _ h2).1]
 refine wp_mono (x0g (w0:=⟨w,V,[],m.dom w.heap.size⟩) hm rfl (λ_=>rfl) ac c _ V _ h a0 w _ hc) λe a' w' hq => ?_;obtain⟨σ',V',addr',hle,hc',hk⟩:=hq;unfold f14 at hk;split at hk
 . rename_i ty' m' hob;obtain⟨he,v,hrun,hR⟩:=J0j hc' hk;have hg:=N02 hob;have hl':m'.Lies V' w':=λb cs hb'=>⟨(hc'.reg.at_ r ty' m' hg b cs hb').1,(hc'.reg.at_ r ty' m' hg b cs hb').2.2.1⟩
   have hn:∀b,m' b≠none->m b≠none\/w.heap.size<=b:=by
    intro b hb';cases e:m' b with
    | none=>exact absurd e hb'
    | some cs =>
      rcases (hc'.reg.at_ r ty' m' hg b cs e).2.1 with g|g
      . exact .inr g
      exact .inl (L0i.1 g.2).2
   have hbe:B05 (m.dom w.heap.size) w w':=by simpa using hc'.below
   rcases he with rfl|rfl
   . exact⟨hc'.defers,v,hrun,v,m',V',rfl,hle,hc'.vin,hc'.fresh,hbe,hl',hn,hR⟩
   exact⟨hc'.defers,v,hrun,v,m',V',rfl,hle,hc'.vin,hc'.fresh,hbe,hl',hn,hR⟩
 exact hk.elim
def resO(σ:St)(rv:ResultVar)(ty:TypeId)(k:Nat->Nat->List Value->Prop):Prop :=
 match rv with
 | .tmp t =>
   match σ.tm.getD t .any with
   | .val (.slice none 0 0)=>k 0 0 []
   | .lst id n cap => match σ.own.getD id none with
     | some ⟨ty', .list l⟩ => match Nat.beq ty' ty with
       | true=>k n cap l
       | false=>False
     | _=>False
   | .osl id 0 n cap => match σ.own.getD id none with
     | some ⟨ty', .dyn l⟩ => match Nat.beq ty' ty with
       | true=>(cap≠0/\l≠[])/\k n cap l
       | false=>False
     | _=>False
   | _=>False
 | _=>False
def C12(P:Program)(fn:Func)(ty:TypeId)(R:Nat->Nat->List Value->List Value->View->Prop)(e:Exit)(σ:St)(V:View):Prop :=
 match e with
 | .ret | .normal =>
   match fn.results.toList with
   | [r1]=>resO σ r1 ty λn cap l=>R n cap l [] V
   | [r1,r2]=>resO σ r1 ty λn cap l=>i07 P σ r2 λv2=>R n cap l [v2] V
   | _=>False
 | _=>False
theorem m0p{P:Program}{w0 σ V a w addr}(hc:Conc [] w0 σ V a w addr)(hA:w0.A=[]){rv:ResultVar}{ty:TypeId}{k:Nat->Nat->List Value->Prop}(h:resO σ rv ty k) :
 ∃b n cap l,k n cap l/\(y0g a.tmps rv).run P w = .ok (.slice (lstA b cap) n cap) w/\(l≠[]->w0.w.heap.size<=b/\w.heap[b]?=some (.cells l.toArray ty (0,0))/\V b=none):=by
 have hlo:∀ {x:Nat},w0.w.heap.size<=x\/x∈([]:List (Nat×Nat)).map (·.2)++w0.A->w0.w.heap.size<=x:=by
  intro x hx;rcases hx with h|h
  . exact h
  rw[hA]at h; simp at h
 unfold resO at h;split at h
 . rename_i t;have hr:=hc.eval (.tmp t);simp only[St.ev,Act.eval]at hr;split at h
   . rename_i hp;rw[hp]at hr;simp only[Rel]at hr;exact⟨0,0,0,[],h,by simp only[y0g,Sem.run_pure,hr]; rfl,λh=>absurd rfl h⟩
   . rename_i id n cap hp;rw[hp]at hr;simp only[Rel]at hr;split at h
     . rename_i ty' l hob;split at h
       . rename_i hty;have hty:=Aj hty;subst hty;refine⟨addr id,n,cap,l,h,by simp only[y0g,Sem.run_pure,hr.2]; rfl,λhl => ?_⟩;obtain⟨arr,hw,hba⟩:=hc.blk id _ hob hl;simp only[X06]at hba;subst hba;exact⟨hlo (hc.lo id _ hob hl),hw,hc.out id _ hob hl⟩
       exact h.elim
     exact h.elim
   . rename_i id n cap hp;rw[hp]at hr;simp only[Rel]at hr;split at h
     . rename_i ty' l hob;split at h
       . rename_i hty;have hty:=Aj hty;subst hty;obtain⟨⟨hc0,hl0⟩,h⟩:=h;refine⟨addr id,n,cap,l,h,by simp only[y0g,Sem.run_pure,hr.2,lstA,if_neg hc0],λhl => ?_⟩;obtain⟨arr,hw,hba⟩:=hc.blk id _ hob trivial;simp only[X06]at hba;subst hba;exact⟨hlo (hc.lo id _ hob trivial),hw,hc.out id _ hob trivial⟩
       exact h.elim
     exact h.elim
   exact h.elim
 exact h.elim
theorem J0u{P:Program}{fn:Func}{ty:TypeId}{R:Nat->Nat->List Value->List Value->View->Prop}{w0 σ V a w addr}(hc:Conc [] w0 σ V a w addr)(hA:w0.A=[]){e:Exit}(h:C12 P fn ty R e σ V) :
 (e = .ret\/e = .normal)/\∃b n cap l rest,(results fn a.tmps).run P w = .ok (t0j b n cap rest) w/\(l≠[]->w0.w.heap.size<=b/\w.heap[b]?=some (.cells l.toArray ty (0,0))/\V b=none)/\R n cap l rest V:=by
 have hres:∀l,fn.results.toList=l->fn.results=l.toArray:=λl hl=>by apply Bv; simpa using hl
 have main:∀(hm:(match fn.results.toList with
  | [r1]=>resO σ r1 ty λn cap l=>R n cap l [] V
  | [r1,r2]=>resO σ r1 ty λn cap l=>i07 P σ r2 λv2=>R n cap l [v2] V
  | _=>False)),∃b n cap l rest,(results fn a.tmps).run P w = .ok (t0j b n cap rest) w/\(l≠[]->w0.w.heap.size<=b/\w.heap[b]?=some (.cells l.toArray ty (0,0))/\V b=none)/\R n cap l rest V:=by
  intro hm;split at hm
  . rename_i r1 hl;obtain⟨b,n,cap,l,hk,hr,ho⟩:=m0p (P:=P) hc hA hm;exact⟨b,n,cap,l,[],by simp[m08,hres _ hl,hr,t0j],ho,hk⟩
  . rename_i r1 r2 hl;obtain⟨b,n,cap,l,hk,hr,ho⟩:=m0p (P:=P) hc hA hm;obtain⟨v2,hk2,hr2⟩:=J05 hc hk;exact⟨b,n,cap,l,[v2],by simp[m08,hres _ hl,hr,hr2,t0j],ho,hk2⟩
  exact hm.elim
 unfold C12 at h;split at h
 . exact⟨.inl rfl,main h⟩
 . exact⟨.inr rfl,main h⟩
 exact h.elim
theorem Conc.start{f:Nat}{args:List Value}{V:View}{w:World}(hw:V.In w):Conc [] ⟨w,V,[],[]⟩ (st0 f args) V { tmps:=args.toArray++Array.replicate (f-args.toArray.size) undef,defers:=[] } w (λ_=>0):=by
 refine⟨by simp[st0],by simp[st0],λi hi => ?_,rfl,λid ob h => ?_,λid ob h => ?_,λp hp=>by simp at hp,λid ob h => ?_,λid id' ob ob' h => ?_,hw,B05.refl _ _,O05 _ _,.none λid ty m h => ?_⟩
 . simp only[st0,Be,Bt,Ek]at hi;by_cases h1:i<args.length
   . simp[st0,List.getD,Ai,Bp,h1,Rel,Dh]
   have:(st0 f args).tm.getD i .any = .any:=by
     have h2:i-args.length<f-args.length:=by omega
     simp[st0,List.getD,Bp,h1,h2]
   rw[this]; trivial
 all_goals
  exfalso;simp only[st0,List.getD,Dd]at h;split at h<;>simp at h
theorem n0p{P:Program}{Shp:l04}{f:FuncId}{fn:Func}{c:Code}{args:List Value}{ty:TypeId}{V:View}{R:Nat->Nat->List Value->List Value->View->Prop}(hm:P.follows .mixedOrders=true)
 (hf:P.funcs[f]?=some fn) (hb:fn.body=some c) (ac:AC) (h:vc P Shp [] ac c (st0 fn.ntmps args) V (C12 P fn ty R)):j0f P f args.toArray ty V R:=by
 intro w hw;refine calls_of_wp hf hb ?_;refine wp_mono (x0g (w0:=⟨w,V,[],[]⟩) hm rfl (λ_=>rfl) ac c _ V _ h _ w _ (Conc.start hw)) λe a' w' hq => ?_;obtain⟨σ',V',addr',hle,hc',hk⟩:=hq;obtain⟨he,b,n,cap,l,rest,hrun,ho,hR⟩:=J0u hc' rfl hk;rcases he with rfl|rfl
 . exact⟨hc'.defers,_,hrun,b,n,cap,l,rest,V',rfl,hle,hc'.vin,hc'.fresh,hc'.below.below,ho,hR⟩
 exact⟨hc'.defers,_,hrun,b,n,cap,l,rest,V',rfl,hle,hc'.vin,hc'.fresh,hc'.below.below,ho,hR⟩
def N11(fn:Func)(ty:TypeId)(off len cap:Nat)(R:List Value->View->Prop)(e:Exit)(σ:St)(V:View):Prop :=
 match σ.own[(0:Nat)]? with
 | some (some ⟨ty',.dyn l'⟩)=>match Nat.beq ty' ty,e,fn.results.toList with
   | true, .ret, [.tmp t] | true, .normal, [.tmp t] => match σ.tm.getD t .any with
     | .osl 0 off' len' cap'=>(off'=off/\len'=len/\cap'=cap)/\R l' V
     | _=>False
   | _,_,_=>False
 | _=>False
theorem z0n{P:Program}{Shp:l04}{f:FuncId}{fn:Func}{c:Code}{args:List Value}{ty:TypeId}{l:List Value}{off len cap:Nat}{V:View}{R:List Value->View->Prop}
 (hm:P.follows .mixedOrders=true) (hf:P.funcs[f]?=some fn) (hb:fn.body=some c) (ac:AC) (h:vc P Shp [0] ac c (st0D fn.ntmps ty l off len cap args) V (N11 fn ty off len cap R)) :
 g0i P f (λb => .slice (some ⟨b,off,none⟩) len cap::args) ty l V R:=by
 intro w b hw hwb hVb;refine calls_of_wp hf hb ?_;let xs:List Value := .slice (some ⟨b,off,none⟩) len cap::args;let a0:Act:={ tmps:=xs.toArray++Array.replicate (fn.ntmps-xs.toArray.size) undef,defers:=[] };have hown:∀id ob,(st0D fn.ntmps ty l off len cap args).own.getD id none=some ob->id=0/\ob=⟨ty,.dyn l⟩:=by
  intro id ob h;cases id with
  | zero=>simp[st0D]at h; exact⟨rfl,h.symm⟩
  | succ id =>
    simp only[st0D,List.getD,Fv,Dd]at h;split at h<;>simp at h
 have hc:Conc [(0,b)] ⟨w,V,[],[]⟩ (st0D fn.ntmps ty l off len cap args) V a0 w (λ_=>b):=by
  refine⟨by simp[a0,xs,st0D]; omega,by simp[st0D],λi hi => ?_,rfl,λid ob h _ => ?_,λid ob h _ => ?_,λp hp => ?_,λid ob h _ => ?_,λid id' ob ob' h h' _ _ _ => ?_,hw,B05.refl _ _,O05 _ _,.none λid ty m h=>absurd (hown id _ h).2 (by simp)⟩
  . cases i with
    | zero=>simp[a0,xs,st0D,Rel,Dh]
    | succ i =>
      simp only[st0D,Db,Be,Bt,Ek]at hi;by_cases h1:i<args.length
      . simp[a0,xs,st0D,List.getD,Ai,Bp,h1,Rel,Dh]
      have:(st0D fn.ntmps ty l off len cap args).tm.getD (i+1) .any = .any:=by
        have h2:i-args.length<fn.ntmps-(args.length+1):=by omega
        simp[st0D,List.getD,Bp,h1,h2]
      rw[this]; trivial
  . obtain⟨rfl,rfl⟩:=hown id ob h; exact⟨_,hwb,rfl⟩
  . exact .inr (by simp)
  . simp at hp; subst hp; exact⟨rfl,by simp[st0D]⟩
  . exact hVb
  rw[(hown _ _ h).1,(hown _ _ h').1]
 refine wp_mono (x0g (w0:=⟨w,V,[],[]⟩) hm rfl (λ_=>rfl) ac c _ V _ h a0 w _ hc) λe a' w' hq => ?_;obtain⟨σ',V',addr',hle,hc',hk⟩:=hq;have haddr:=(hc'.lent (0,b) (by simp)).1;simp only at haddr;have fin:∀(l':List Value) (t:Tmp) (off' len' cap':Nat),σ'.own[(0:Nat)]?=some (some ⟨ty,.dyn l'⟩)->fn.results.toList=[.tmp t]->σ'.tm.getD t .any = .osl 0 off' len' cap'->off'=off/\len'=len/\cap'=cap->R l' V' ->
  a'.defers=[]/\∃v,(results fn a'.tmps).run P w' = .ok v w'/\∃V' l',Ending.returned v = .returned (((Value.slice (some ⟨b,off,none⟩) len cap::args)).headD undef)/\V.le V'/\V'.In w'/\V.fresh w.heap.size V'/\B05 [b] w w'/\w'.heap[b]?=some (.cells l'.toArray ty (0,0))/\V' b=none/\R l' V':=by
  intro l' t off' len' cap' hob hres hsv he hR;have hg:=N02 hob;obtain⟨arr,hw',hba⟩:=hc'.blk 0 _ hg trivial;simp only[X06]at hba;subst hba;rw[haddr]at hw';have hn:=hc'.out 0 _ hg trivial;rw[haddr]at hn;have hr:=hc'.eval (.tmp t);simp only[St.ev,Act.eval]at hr;rw[hsv]at hr;simp only[Rel]at hr;obtain⟨rfl,rfl,rfl⟩:=he;have hfr:fn.results=#[.tmp t]:=by apply Bv; simpa using hres
  refine⟨hc'.defers,.slice (some ⟨b,off',none⟩) len' cap',by simp[m08,hfr,y0g,hr.2,haddr],V',l',rfl,hle,hc'.vin,hc'.fresh,by simpa using hc'.below,hw',hn,hR⟩
 unfold N11 at hk;split at hk
 . rename_i ty' l' hob;split at hk
   . rename_i t hty hres;have hty:=Aj hty;subst hty;split at hk
     . rename_i off' len' cap' hsv;exact fin l' t off' len' cap' hob hres hsv hk.1 hk.2
     exact hk.elim
   . rename_i t hty hres;have hty:=Aj hty;subst hty;split at hk
     . rename_i off' len' cap' hsv;exact fin l' t off' len' cap' hob hres hsv hk.1 hk.2
     exact hk.elim
   exact hk.elim
 exact hk.elim
attribute [irreducible] vc
