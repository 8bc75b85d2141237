/- Part. -/
import Derived.Orders
import Derived.Below
import Derived.KernelRfl
import Derived.Laws.Cells
import Derived.Laws.Rows
namespace Go.Vc
open Go Go.RowKit
abbrev View:=Nat->Option (Array Value)
def View.le(V V':View):Prop:=∀b cs,V b=some cs->V' b=some cs
def View.In(V:View)(w:World):Prop:=∀b cs,V b=some cs->∃T fr,w.heap[b]?=some (.cells cs T fr)
def View.load(V:View):Option Addr->Option Value
 | some a=>if a.spot.isSome then none else(V a.block).bind (·[a.off]?)
 | none=>none
def View.has(V:View)(p:Option Addr)(l:List Value):Prop:=∀j v,l[j]?=some v->V.load (p.map (·.add j))=some v
theorem View.le_refl(V:View):V.le V:=λ_ _ h=>h
theorem View.le_trans{V V' V'':View}(h:V.le V')(k:V'.le V''):V.le V'':=λb cs e=>k b cs (h b cs e)
theorem t0r{V V':View}{w:World}(h:V.le V')(k:V'.In w):V.In w:=λb cs e=>k b cs (h b cs e)
theorem H01{V V':View}(h:V.le V'){p:Option Addr}{v:Value}(e:V.load p=some v):V'.load p=some v:=by
 cases p with
 | none=>simp[View.load]at e
 | some a =>
   simp only[View.load]at e ⊢
   split at e
   . simp at e
   . rename_i hs
     rw[if_neg hs]
     cases hb:V a.block with
     | none=>simp[hb]at e
     | some cs=>rw[h _ _ hb]; simpa [hb]using e
theorem q08{V V':View}(h:V.le V'){p:Option Addr}{l:List Value}(e:V.has p l):V'.has p l :=
 λj v hv=>H01 h (e j v hv)
theorem X04{V:View}{w:World}(h:V.In w){a:Addr}{v:Value}(e:V.load (some a)=some v):w.cell? a=some v:=by
 simp only[View.load]at e
 split at e
 . simp at e
 . rename_i hs
   cases hb:V a.block with
   | none=>simp[hb]at e
   | some cs =>
     obtain⟨T,fr,hw⟩:=h _ _ hb
     simp only[World.cell?,hw]
     rw[if_neg hs]
     simpa [hb]using e
def View.fresh(V:View)(n:Nat)(V':View):Prop:=∀b cs,V' b=some cs->V b=some cs\/n<=b
theorem u06(V:View)(n:Nat):V.fresh n V:=λ_ _ h => .inl h
theorem l08{V V' V'':View}{n m:Nat}(h:V.fresh n V')(k:V'.fresh m V'')(hn:n<=m):V.fresh n V'':=λb cs e=>by
 rcases k b cs e with h1|h1
 . exact h b cs h1
 . exact .inr (Nat.le_trans hn h1)
structure M05 (B:List Nat) (w w':World):Prop where
 os:w'.os=w.os
 tape:w'.tape=w.tape
 output:w'.output=w.output
 size:w.heap.size<=w'.heap.size
 block:∀k,k<w.heap.size->k∉B->w'.heap[k]?=w.heap[k]?
theorem M05.refl(B:List Nat)(w:World):M05 B w w:=⟨rfl,rfl,rfl,Nat.le_refl _,λ_ _ _=>rfl⟩
theorem M05.trans{B:List Nat}{a b c:World}(h:M05 B a b)(k:M05 B b c):M05 B a c :=
 ⟨k.os.trans h.os,k.tape.trans h.tape,k.output.trans h.output,Nat.le_trans h.size k.size,
   λi hi hn=>(k.block i (Nat.lt_of_lt_of_le hi h.size) hn).trans (h.block i hi hn)⟩
theorem M05.drew{B:List Nat}{a w:World}(h:M05 B a w):M05 B a w.drew:=⟨h.os,h.tape,h.output,h.size,h.block⟩
theorem M05.alloc{B:List Nat}{a w:World}(h:M05 B a w)(o:Obj):M05 B a (w.alloc o) :=
 h.trans ⟨rfl,rfl,rfl,by simp,λk hk _=>Below.heap_alloc _ _ _ hk⟩
theorem M05.below{w w':World}(h:M05 [] w w'):Below w.heap.size w w' :=
 ⟨h.os,h.tape,h.output,h.size,λk hk=>h.block k hk (by simp)⟩
theorem U0m{B:List Nat}{w w':World}(h:Below w.heap.size w w'):M05 B w w' :=
 ⟨h.os,h.tape,h.output,h.size,λk hk _=>h.block k hk⟩
def a00(P:Program)(f:FuncId)(args:Array Value)(V:View)(R:Value->View->Prop):Prop :=
 ∀w,V.In w->Calls P f args w λe w'=>∃v V',e = .returned v/\V.le V'/\V'.In w'/\V.fresh w.heap.size V'/\Below w.heap.size w w'/\R v V'
def d0j(P:Program)(f:FuncId)(mk:Nat->List Value)(ty:TypeId)(l:List Value)(V:View)(R:Value->List Value->View->Prop):Prop :=
 ∀w b,V.In w->w.heap[b]?=some (.cells l.toArray ty (0,0))->V b=none->Calls P f (mk b).toArray w λe w'=>∃v V' l',e = .returned v/\V.le V'/\V'.In w' /\
  V.fresh w.heap.size V'/\M05 [b] w w'/\w'.heap[b]?=some (.cells l'.toArray ty (0,0))/\V' b=none/\R v l' V'
def lstA(b cap:Nat):Option Addr:=if cap=0 then none else some ⟨b,0,none⟩
def k0l(b n cap:Nat)(rest:List Value):Value :=
 match rest with
 | [] => .slice (lstA b cap) n cap
 | v::vs => .tuple (Value.slice (lstA b cap) n cap::v::vs).toArray
def m0b(P:Program)(f:FuncId)(args:Array Value)(ty:TypeId)(V:View)(R:Nat->Nat->List Value->List Value->View->Prop):Prop :=
 ∀w,V.In w->Calls P f args w λe w'=>∃(b n cap:Nat) (l rest:List Value) (V':View),e = .returned (k0l b n cap rest)/\V.le V'/\V'.In w'/\V.fresh w.heap.size V'/\Below w.heap.size w w' /\
  (l≠[]->w.heap.size<=b/\w'.heap[b]?=some (.cells l.toArray ty (0,0))/\V' b=none)/\R n cap l rest V'
theorem m0b.mono{P:Program}{f:FuncId}{args:Array Value}{ty:TypeId}{V:View}{R R':Nat->Nat->List Value->List Value->View->Prop}(h:m0b P f args ty V R)
 (hr:∀n cap l rest V',V.le V'->R n cap l rest V'->R' n cap l rest V'):m0b P f args ty V R' :=
 λw hw=>(h w hw).mono λ_ _ ⟨b,n,cap,l,rest,V',he,hl,hi,hf,hb,ho,r⟩=>⟨b,n,cap,l,rest,V',he,hl,hi,hf,hb,ho,hr n cap l rest V' hl r⟩
theorem m0b.known{P:Program}{f:FuncId}{args:Array Value}{ty:TypeId}{V:View}{R:Nat->Nat->List Value->List Value->View->Prop}(h:m0b P f args ty V R) :
 a00 P f args V λv V'=>∃(b n cap:Nat) (l rest:List Value) (V1:View),v=k0l b n cap rest/\V1.le V'/\(l≠[]->V' b=some l.toArray)/\R n cap l rest V1:=by
 intro w hw
 refine(h w hw).mono λe w' ⟨b,n,cap,l,rest,V1,he,hl,hi,hf,hb,ho,r⟩ => ?_
 by_cases h0:l=[]
 . exact⟨_,V1,he,hl,hi,hf,hb,b,n,cap,l,rest,V1,rfl,View.le_refl V1,λh=>absurd h0 h,r⟩
 . obtain⟨h1,h2,h3⟩:=ho h0
   refine⟨_,λi=>if i=b then some l.toArray else V1 i,he,?_,?_,?_,hb,b,n,cap,l,rest,V1,rfl,?_,λ_=>by simp,r⟩
   . intro i cs hc
     by_cases e:i=b
     . subst e; rw[hl i cs hc]at h3; simp at h3
     . simp[e,hl i cs hc]
   . intro i cs hc
     by_cases e:i=b
     . subst e; simp at hc; subst hc; exact⟨ty,_,h2⟩
     . simp[e]at hc; exact hi i cs hc
   . intro i cs hc
     by_cases e:i=b
     . subst e; exact .inr h1
     . simp[e]at hc; exact hf i cs hc
   . intro i cs hc
     by_cases e:i=b
     . subst e; rw[h3]at hc; simp at hc
     . simp[e,hc]
def L0j(P:Program)(f:FuncId)(mk:Nat->List Value)(ty:TypeId)(l:List Value)(V:View)(R:List Value->View->Prop):Prop :=
 ∀w b,V.In w->w.heap[b]?=some (.cells l.toArray ty (0,0))->V b=none->Calls P f (mk b).toArray w λe w'=>∃V' l',e = .returned ((mk b).headD undef)/\V.le V'/\V'.In w' /\
  V.fresh w.heap.size V'/\M05 [b] w w'/\w'.heap[b]?=some (.cells l'.toArray ty (0,0))/\V' b=none/\R l' V'
def G12(P:Program)(f:FuncId)(vs:List Value)(tp e:TypeId)(n cap:Nat)(l:List Value)(V:View)(R:Nat->Nat->List Value->View->Prop):Prop :=
 ∀w b b2,V.In w->w.heap[b]?=some (.cells #[.slice (lstA b2 cap) n cap] tp (0,0))->V b=none->(l≠[]->w.heap[b2]?=some (.cells l.toArray e (0,0))/\V b2=none/\b2≠b) ->
  Calls P f (vs++[Value.pointer (some ⟨b,0,none⟩)]).toArray w λen w'=>∃(V':View) (n' cap':Nat) (l':List Value) (c2:Nat),en = .returned (.tuple #[])/\V.le V'/\V'.In w' /\
   V.fresh w.heap.size V'/\M05 (b::if l=[]then []else [b2]) w w'/\w'.heap[b]?=some (.cells #[.slice (lstA c2 cap') n' cap'] tp (0,0))/\V' b=none /\
   (l'≠[]->w'.heap[c2]?=some (.cells l'.toArray e (0,0))/\V' c2=none/\c2≠b/\(w.heap.size<=c2\/(l≠[]/\c2=b2)))/\R n' cap' l' V'
theorem L0j.mono{P:Program}{f:FuncId}{mk:Nat->List Value}{ty:TypeId}{l:List Value}{V:View}{R R':List Value->View->Prop}(h:L0j P f mk ty l V R)
 (hr:∀l' V',V.le V'->R l' V'->R' l' V'):L0j P f mk ty l V R' :=
 λw b hw h1 h2=>(h w b hw h1 h2).mono λ_ _ ⟨V',l',he,hl,hi,hf,hb,h3,h4,r⟩=>⟨V',l',he,hl,hi,hf,hb,h3,h4,hr l' V' hl r⟩
theorem d0j.mono{P:Program}{f:FuncId}{mk:Nat->List Value}{ty:TypeId}{l:List Value}{V:View}{R R':Value->List Value->View->Prop}(h:d0j P f mk ty l V R)
 (hr:∀v l' V',V.le V'->R v l' V'->R' v l' V'):d0j P f mk ty l V R' :=
 λw b hw h1 h2=>(h w b hw h1 h2).mono λ_ _ ⟨v,V',l',he,hl,hi,hf,hb,h3,h4,r⟩=>⟨v,V',l',he,hl,hi,hf,hb,h3,h4,hr v l' V' hl r⟩
def View.Lies(m V:View)(w:World):Prop:=∀b cs,m b=some cs->(∃T,w.heap[b]?=some (.cells cs T (0,0)))/\V b=none
def View.dom(m:View)(n:Nat):List Nat:=(List.range n).filter λb=>(m b).isSome
def H12(P:Program)(f:FuncId)(args:Array Value)(m V:View)(R:Value->View->View->Prop):Prop :=
 ∀w,V.In w->m.Lies V w->Calls P f args w λe w'=>∃(v:Value) (m' V':View),e = .returned v/\V.le V'/\V'.In w'/\V.fresh w.heap.size V' /\
  M05 (m.dom w.heap.size) w w'/\m'.Lies V' w'/\(∀b,m' b≠none->m b≠none\/w.heap.size<=b)/\R v m' V'
def View.Fin(V:View):Prop:=∃n,∀b,n<=b->V b=none
theorem View.In.fin{V:View}{w:World}(h:V.In w):V.Fin:=⟨w.heap.size,λb hb=>by
 cases hv:V b with
 | none=>rfl
 | some cs=>obtain⟨T,fr,hw⟩:=h b cs hv; rw[Array.getElem?_eq_none hb]at hw; simp at hw⟩
theorem H12.mono{P:Program}{f:FuncId}{args:Array Value}{m V:View}{R R':Value->View->View->Prop}(h:H12 P f args m V R)
 (hr:∀v m' V',V.le V'->V'.Fin->R v m' V'->R' v m' V'):H12 P f args m V R' :=
 λw hw hm=>(h w hw hm).mono λ_ _ ⟨v,m',V',he,hl,hi,hf,hb,h3,h4,r⟩=>⟨v,m',V',he,hl,hi,hf,hb,h3,h4,hr v m' V' hl hi.fin r⟩
theorem G12.mono{P:Program}{f:FuncId}{vs:List Value}{tp e:TypeId}{n cap:Nat}{l:List Value}{V:View}{R R':Nat->Nat->List Value->View->Prop}(h:G12 P f vs tp e n cap l V R)
 (hr:∀n' cap' l' V',V.le V'->V'.Fin->R n' cap' l' V'->R' n' cap' l' V'):G12 P f vs tp e n cap l V R' :=
 λw b b2 hw h1 h2 h3=>(h w b b2 hw h1 h2 h3).mono λ_ _ ⟨V',n',cap',l',c2,he,hl,hi,hf,hb,h4,h5,h6,r⟩=>⟨V',n',cap',l',c2,he,hl,hi,hf,hb,h4,h5,h6,hr n' cap' l' V' hl hi.fin r⟩
theorem View.Fin.world{V:View}(h:V.Fin):∃w,V.In w:=by
 obtain⟨n,hn⟩:=h
 refine⟨{ (default:World)with heap:=(Array.range n).map λb => .cells ((V b).getD #[]) 0 },λb cs hb => ?_⟩
 have hlt:b<n:=by
  rcases Nat.lt_or_ge b n with h|h
  . exact h
  . rw[hn b h]at hb; simp at hb
 exact⟨0,(0,0),by simp[hlt,hb]⟩
theorem a00.mono'{P:Program}{f:FuncId}{args:Array Value}{V:View}{R R':Value->View->Prop}(h:a00 P f args V R)
 (hr:∀v V',V.le V'->V'.Fin->R v V'->R' v V'):a00 P f args V R' :=
 λw hw=>(h w hw).mono λ_ _ ⟨v,V',he,hl,hi,hf,hb,r⟩=>⟨v,V',he,hl,hi,hf,hb,hr v V' hl hi.fin r⟩
theorem a00.inst{P:Program}{f:FuncId}{args:Array Value}{V:View}{R:Value->View->Prop}(hV:V.Fin)(h:a00 P f args V R) :
 ∃v V',V.le V'/\V'.Fin/\R v V':=by
 obtain⟨w,hw⟩:=hV.world
 obtain⟨_,_,_,⟨v,V',_,hl,hi,_,_,r⟩,_⟩:=h w hw []
 exact⟨v,V',hl,hi.fin,r⟩
theorem a00.mono{P:Program}{f:FuncId}{args:Array Value}{V:View}{R R':Value->View->Prop}(h:a00 P f args V R)
 (hr:∀v V',V.le V'->R v V'->R' v V'):a00 P f args V R' :=
 λw hw=>(h w hw).mono λ_ _ ⟨v,V',he,hl,hi,hf,hb,r⟩=>⟨v,V',he,hl,hi,hf,hb,hr v V' hl r⟩
inductive SV where
 | val (v:Value)
 | lit (b:Bool)
 | own (id off:Nat)
 | osl (id off len cap:Nat)
 | clo (f:FuncId) (ids:List Nat)
 | lst (id n cap:Nat)
 | tlst (id n cap:Nat) (rest:List Value)
 | les (id n cap:Nat)
 | any
inductive Cs where
 | fixed (l:List SV)
 | dyn (l:List Value)
 | list (l:List Value)
 | reg (m:View)
def Cs.real:Cs->Prop
 | .list l=>l≠[]
 | .reg _=>False
 | _=>True
structure OB where
 ty:TypeId
 cs:Cs
structure St where
 tm:List SV
 own:List (Option OB)
def SV.asVal:SV->Option Value
 | .val v=>some v
 | .lit b=>some (.bool b)
 | _=>none
def St.ev(σ:St):Operand->SV
 | .tmp t=>σ.tm.getD t .any
 | .const v => .val v
 | .global g => .val (.pointer (some ⟨g,0,none⟩))
 | .func f => .val (.func (.func f) #[] #[])
def St.put(σ:St)(dst:Option Tmp)(v:SV):St :=
 match dst with
 | some d=>{ σ with tm:=σ.tm.set d v }
 | none=>σ
def kind:Option OB->Nat
 | none=>0
 | some ob=>match ob.cs with
   | .list _=>2
   | .reg _=>3
   | _=>1
@[simp] theorem b16 (ty : TypeId) (l : List SV) : kind (some ⟨ty, .fixed l⟩) = 1 := rfl
@[simp] theorem k17 (ty : TypeId) (l : List Value) : kind (some ⟨ty, .dyn l⟩) = 1 := rfl
@[simp] theorem m17 (ty : TypeId) (m : View) : kind (some ⟨ty, .reg m⟩) = 3 := rfl
@[simp] theorem d16 (ty : TypeId) (l : List Value) : kind (some ⟨ty, .list l⟩) = 2 := rfl
def Rel(addr:Nat->Nat)(own:List (Option OB)):SV->Value->Prop
 | .val v,x=>x=v
 | .lit b,x=>x = .bool b
 | .own id off,x=>kind (own.getD id none)=1/\x = .pointer (some ⟨addr id,off,none⟩)
 | .osl id off len cap,x=>kind (own.getD id none)=1/\x = .slice (some ⟨addr id,off,none⟩) len cap
 | .clo f ids,x=>(∀id∈ids,kind (own.getD id none)=1)/\x = .func (.func f) #[] (ids.map λid=>Value.pointer (some ⟨addr id,0,none⟩)).toArray
 | .lst id n cap,x=>kind (own.getD id none)=2/\x = .slice (if cap=0 then none else some ⟨addr id,0,none⟩) n cap
 | .tlst id n cap rest,x=>kind (own.getD id none)=2/\x = .tuple (Value.slice (if cap=0 then none else some ⟨addr id,0,none⟩) n cap::rest).toArray
 | .les id n cap,x=>kind (own.getD id none)=2/\x = .slice (some ⟨addr id,0,none⟩) n cap
 | .any,_=>True
def E06(addr:Nat->Nat)(own:List (Option OB))(cs:Cs)(arr:Array Value):Prop :=
 match cs with
 | .fixed l=>arr.size=l.length/\∀i,i<l.length->Rel addr own (l.getD i .any) (arr.getD i undef)
 | .dyn l=>arr=l.toArray
 | .list l=>arr=l.toArray
 | .reg _=>True
structure J0w (L:List Nat) (n:Nat) (own:List (Option OB)) (V:View) (w:World) (addr:Nat->Nat):Prop where
 at_:∀id ty m,own.getD id none=some ⟨ty,.reg m⟩->∀b cs,m b=some cs->(∃T,w.heap[b]?=some (.cells cs T (0,0)))/\(n<=b\/(ty=1/\b∈L))/\V b=none/\∀i ob,own.getD i none=some ob->ob.cs.real->addr i≠b
 one:∀id id' ty ty' m m',own.getD id none=some ⟨ty,.reg m⟩->own.getD id' none=some ⟨ty',.reg m'⟩->id=id'
theorem d0z{ob:OB}(h:ob.cs.real):kind (some ob)≠3:=by
 obtain⟨ty,cs⟩:=ob
 cases cs with
 | fixed l=>simp
 | dyn l=>simp
 | list l=>simp
 | reg m=>exact absurd h id
theorem d0o{ob:OB}{ty:TypeId}{m:View}(h:some ob=some ⟨ty,.reg m⟩):kind (some ob)=3:=by rw[h]; rfl
theorem J0w.step{L:List Nat}{n:Nat}{own own':List (Option OB)}{V V':View}{w w':World}{addr addr':Nat->Nat}(h:J0w L n own V w addr)
 (ha:∀id ty m,own'.getD id none=some ⟨ty,.reg m⟩->own.getD id none=some ⟨ty,.reg m⟩)
 (hb:∀b,b<w.heap.size->(∀i ob,own.getD i none=some ob->ob.cs.real->addr i≠b)->w'.heap[b]?=w.heap[b]?)
 (hv:∀b cs,V' b=some cs->V b=some cs\/w.heap.size<=b\/∃i ob,own.getD i none=some ob/\ob.cs.real/\addr i=b)
 (hd:∀i ob,own'.getD i none=some ob->ob.cs.real->(∃i' ob',own.getD i' none=some ob'/\ob'.cs.real/\addr' i=addr i')\/w.heap.size<=addr' i):J0w L n own' V' w' addr':=by
 refine⟨λid ty m hm b cs hcs => ?_,λid id' ty ty' m m' h1 h2=>h.one _ _ _ _ _ _ (ha _ _ _ h1) (ha _ _ _ h2)⟩
 obtain⟨⟨T,hT⟩,h2,h3,h4⟩:=h.at_ id ty m (ha _ _ _ hm) b cs hcs
 have hlt:b<w.heap.size:=by
  refine Nat.lt_of_not_le λc => ?_
  rw[Array.getElem?_eq_none c]at hT; exact absurd hT (by simp)
 refine⟨⟨T,by rw[hb b hlt h4]; exact hT⟩,h2,?_,λi ob hi hr e => ?_⟩
 . cases e:V' b with
   | none=>rfl
   | some cs' =>
     rcases hv b cs' e with g|g|⟨i,ob,g1,g2,g3⟩
     . rw[h3]at g; exact absurd g (by simp)
     . omega
     . exact absurd g3 (h4 i ob g1 g2)
 . rcases hd i ob hi hr with⟨i',ob',g1,g2,g3⟩|g
   . exact h4 i' ob' g1 g2 (by rw[<-g3]; exact e)
   . omega
theorem J0w.none{L:List Nat}{n:Nat}{own:List (Option OB)}{V:View}{w:World}{addr:Nat->Nat}(h:∀id ty m,own.getD id .none=some ⟨ty,.reg m⟩->False):J0w L n own V w addr :=
 ⟨λid ty m g=>(h id ty m g).elim,λid _ ty _ m _ g=>(h id ty m g).elim⟩
structure Base where
 w:World
 V:View
 A:List Nat
 R:List Nat
structure Conc (B:List (Nat×Nat)) (w0:Base) (σ:St) (V:View) (a:Act) (w:World) (addr:Nat->Nat):Prop where
 size:a.tmps.size=σ.tm.length
 osize:σ.own.length=σ.tm.length
 rel:∀i,i<σ.tm.length->Rel addr σ.own (σ.tm.getD i .any) (a.tmps.getD i undef)
 defers:a.defers=[]
 blk:∀id ob,σ.own.getD id none=some ob->ob.cs.real->∃arr,w.heap[addr id]?=some (.cells arr ob.ty (0,0))/\E06 addr σ.own ob.cs arr
 lo:∀id ob,σ.own.getD id none=some ob->ob.cs.real->w0.w.heap.size<=addr id\/addr id∈B.map (·.2)++w0.A
 lent:∀p,p∈B->addr p.1=p.2/\kind (σ.own.getD p.1 none)=1
 out:∀id ob,σ.own.getD id none=some ob->ob.cs.real->V (addr id)=none
 inj:∀id id' ob ob',σ.own.getD id none=some ob->σ.own.getD id' none=some ob'->ob.cs.real->ob'.cs.real->addr id=addr id'->id=id'
 vin:V.In w
 below:M05 (B.map (·.2)++w0.A++w0.R) w0.w w
 fresh:w0.V.fresh w0.w.heap.size V
 reg:J0w w0.R w0.w.heap.size σ.own V w addr
theorem Conc.eval{B w0 σ V a w addr}(h:Conc B w0 σ V a w addr)(x:Operand):Rel addr σ.own (σ.ev x) (a.eval x):=by
 cases x with
 | tmp t =>
   simp only[St.ev,Act.eval]
   by_cases ht:t<σ.tm.length
   . exact h.rel t ht
   . have:σ.tm.getD t .any = .any:=by simp[List.getD,List.getElem?_eq_none (Nat.le_of_not_lt ht)]
     rw[this]; trivial
 | const v=>rfl
 | global g=>rfl
 | func f=>rfl
theorem Rel.asVal{addr own}{s:SV}{x v:Value}(h:Rel addr own s x)(hv:s.asVal=some v):x=v:=by
 cases s<;>simp[SV.asVal]at hv<;>subst hv<;>exact h
theorem Rel.own_mono{addr addr':Nat->Nat}{own own':List (Option OB)}(hl:∀id,kind (own.getD id none)≠0->kind (own'.getD id none)=kind (own.getD id none)/\addr' id=addr id)
 {s:SV} {x:Value} (h:Rel addr own s x):Rel addr' own' s x:=by
 have h1:∀ {id},kind (own.getD id none)=1->kind (own'.getD id none)=1/\addr' id=addr id:=λ{id} e=>by
  have:=hl id (by omega); exact⟨by omega,this.2⟩
 cases s with
 | val v=>exact h
 | lit b=>exact h
 | own id off=>exact⟨(h1 h.1).1,by rw[(h1 h.1).2]; exact h.2⟩
 | osl id off len cap=>exact⟨(h1 h.1).1,by rw[(h1 h.1).2]; exact h.2⟩
 | clo f ids =>
   refine⟨λid hid=>(h1 (h.1 id hid)).1,?_⟩
   rw[h.2]
   congr 2
   exact List.map_congr_left λid hid=>by rw[(h1 (h.1 id hid)).2]
 | lst id n cap =>
   have h2:=hl id (by have:=h.1; omega)
   exact⟨by have:=h.1; omega,by rw[h2.2]; exact h.2⟩
 | tlst id n cap rest =>
   have h2:=hl id (by have:=h.1; omega)
   exact⟨by have:=h.1; omega,by rw[h2.2]; exact h.2⟩
 | les id n cap =>
   have h2:=hl id (by have:=h.1; omega)
   exact⟨by have:=h.1; omega,by rw[h2.2]; exact h.2⟩
 | any=>trivial
theorem E06.own_mono{addr addr':Nat->Nat}{own own':List (Option OB)}(hl:∀id,kind (own.getD id none)≠0->kind (own'.getD id none)=kind (own.getD id none)/\addr' id=addr id)
 {cs:Cs} {arr:Array Value} (h:E06 addr own cs arr):E06 addr' own' cs arr:=by
 cases cs with
 | fixed l=>exact⟨h.1,λi hi=>Rel.own_mono hl (h.2 i hi)⟩
 | dyn l=>exact h
 | list l=>exact h
 | reg m=>exact h
theorem Conc.put{B w0 σ V a w addr}(h:Conc B w0 σ V a w addr)(dst:Option Tmp){s:SV}{x:Value}(hs:Rel addr σ.own s x) :
 Conc B w0 (σ.put dst s) V (a.put dst x) w addr:=by
 cases dst with
 | none=>exact h
 | some d =>
   refine⟨by simp[St.put,Act.put,h.size],by simp[St.put,h.osize],λi hi => ?_,h.defers,h.blk,h.lo,h.lent,h.out,h.inj,h.vin,h.below,h.fresh,h.reg⟩
   simp only[St.put,List.length_set]at hi
   simp only[St.put,Act.put]
   have hsz:=h.size
   by_cases hd:d=i
   . subst hd
     have h1:d<a.tmps.size:=hsz▸hi
     simpa [List.getD,List.getElem?_set,hi,Array.getD_eq_getD_getElem?,h1]using hs
   . have:=h.rel i hi
     simpa [List.getD,List.getElem?_set,hd,Array.getD_eq_getD_getElem?,Array.getElem?_setIfInBounds_ne hd]using this
theorem Conc.drew{B w0 σ V a w addr}(h:Conc B w0 σ V a w addr):Conc B w0 σ V a w.drew addr :=
 ⟨h.size,h.osize,h.rel,h.defers,h.blk,h.lo,h.lent,h.out,h.inj,h.vin,h.below.drew,h.fresh,h.reg.step (λ_ _ _ h=>h) (λ_ _ _=>rfl) (λ_ _ h => .inl h) (λi ob h hr => .inl ⟨i,ob,h,hr,rfl⟩)⟩
