/- Part. -/
import Derived.Orders
import Derived.Below
import Derived.KernelRfl
import Derived.Laws.Cells
import Derived.Laws.Rows
abbrev Aa:=@Int.toNat_natCast
abbrev Ab:=@List.getElem?_eq_none
abbrev Ac:=@decide_eq_false_iff_not
abbrev Ad:=@Nat.lt_or_ge
abbrev Ae:=@List.getElem?_eq_getElem
abbrev Af:=@decide_eq_true_eq
abbrev Ag:=@Nat.mul_le_mul_right
abbrev Ah:=@Nat.le_trans
abbrev Ai:=@Array.getD_eq_getD_getElem?
abbrev Aj:=@Nat.eq_of_beq_eq_true
abbrev Ak:=@of_decide_eq_true
abbrev Al:=@of_decide_eq_false
abbrev Am:=@Nat.zero_add
abbrev An9:=@Nat.le_refl
abbrev Ao:=@decide_eq_false
abbrev Ap:=@Nat.eq_zero_or_pos
abbrev Aq:=@decide_eq_true
abbrev Ar:=@Nat.pow_le_pow_right
abbrev As:=@List.getElem?_set
abbrev At9:=@if_false
abbrev Au:=@Array.getElem?_eq_none
abbrev Av:=@Nat.pow_add
abbrev Aw:=@Option.map_some
abbrev Ax:=@List.getElem_mem
abbrev Ay:=@Option.some.injEq
abbrev Az:=@if_true
abbrev Ba:=@Nat.pow_succ
abbrev Bb:=@Nat.add_mul
abbrev Bc:=@List.mem_map
abbrev Bd:=@Int.fdiv_eq_ediv_of_nonneg
abbrev Be:=@List.length_append
abbrev Bf:=@Int.natAbs_natCast
abbrev Bg:=@Option.map_eq_some_iff
abbrev Bh:=@Nat.mul_lt_mul_of_pos_right
abbrev Bi:=@Nat.pow_pos
abbrev Bj:=@Nat.mul_assoc
abbrev Bk9:=@List.all_eq_true
abbrev Bm:=@Rat.div_def
abbrev Bn:=@List.mem_of_getElem?
abbrev Bo:=@List.getElem?_take_of_lt
abbrev Bp:=@List.getElem?_append
abbrev Bq:=@List.mem_cons
abbrev Br:=@Nat.mul_comm
abbrev Bs:=@Bool.and_false
abbrev Bt:=@List.length_map
abbrev Bu:=@Nat.pow_lt_pow_iff_right
abbrev Bv:=@Array.ext'
abbrev Bw:=@Array.getElem?_eq_getElem
abbrev Bx9:=@Nat.mod_eq_of_lt
abbrev By:=@Bool.and_eq_true
abbrev Bz:=@Nat.mul_ne_zero
abbrev Ca:=@List.mem_singleton
abbrev Cb:=@List.mem_append
abbrev Cc:=@Int.natCast_mul
abbrev Cd:=@List.getElem?_map
abbrev Ce:=@List.take_add_one
abbrev Cf:=@Nat.add_sub_cancel
abbrev Cg:=@Int.natCast_nonneg
abbrev Ch:=@List.map_congr_left
abbrev Ci:=@Nat.succ_mul
abbrev Cj:=@Nat.min_eq_left
abbrev Ck:=@congrArg
abbrev Cl:=@List.getD_eq_getElem?_getD
abbrev Cm:=@Nat.lt_of_lt_of_le
abbrev Cn:=@Int.natAbs_neg
abbrev Co:=@Option.isSome_iff_exists
abbrev Cp:=@List.not_mem_nil
abbrev Cq9:=@List.append_assoc
abbrev Cr:=@List.getElem?_set_ne
abbrev Cs9:=@Nat.lt_of_le_of_lt
abbrev Ct:=@Nat.mul_one
abbrev Cu:=@List.take_length
abbrev Cv:=@Nat.mul_le_mul_left
abbrev Cw:=@List.ext_getElem?
abbrev Cx:=@List.eq_nil_of_length_eq_zero
abbrev Cy:=@Nat.zero_mul
abbrev Cz:=@List.range_succ
abbrev Da:=@List.getElem?_drop
abbrev Db:=@List.length_cons
abbrev Dc:=@List.length_eq_zero_iff
abbrev Dd:=@List.getElem?_replicate
abbrev De:=@Bool.not_eq_true'
abbrev Df:=@Nat.le_of_mul_le_mul_right
abbrev Dg:=@List.length_set
abbrev Dh:=@Array.getElem?_append
abbrev Di:=@Nat.div_lt_iff_lt_mul
abbrev Dj:=@Option.getD_some
abbrev Dk:=@List.length_take
abbrev Dl:=@Nat.and_two_pow_sub_one_eq_mod
abbrev Dm:=@Nat.add_zero
abbrev Dn:=@Int.natAbs_mul
abbrev Do9:=@Bool.false_and
abbrev Dp:=@Nat.succ_le_of_lt
abbrev Dq:=@Nat.mod_lt
abbrev Dr9:=@List.take_of_length_le
abbrev Dt:=@Nat.two_pow_add_eq_or_of_lt
abbrev Du:=@ge_iff_le
abbrev Dv:=@Nat.le_of_ble_eq_true
abbrev Dw:=@List.take_append_drop
abbrev Dx:=@List.getElem?_append_left
abbrev Dy:=@List.length_nil
abbrev Dz:=@BitVec.ofInt_natCast
abbrev Ea:=@Nat.one_mul
abbrev Eb9:=@Array.length_toList
abbrev Ec:=@List.replicate_succ
abbrev Ed:=@Int.natAbs_mul_self
abbrev Ee:=@Nat.div_div_eq_div_mul
abbrev Ef:=@List.nil_append
abbrev Eg:=@Nat.two_pow_pos
abbrev Eh:=@Nat.div_le_self
abbrev Ei:=@Nat.log2_eq_iff
abbrev Ej:=@Nat.add_assoc
abbrev Ek:=@List.length_replicate
abbrev El:=@Nat.mul_le_mul
abbrev Em:=@Nat.lt_of_not_le
abbrev En:=@List.ext_getElem
abbrev Eo:=@Nat.pow_zero
abbrev Ep:=@List.drop_eq_getElem_cons
abbrev Eq9:=@or_false
abbrev Er:=@List.map_append
abbrev Es9:=@Rat.intCast_neg
abbrev Et:=@BitVec.toNat_ofNat
abbrev Eu:=@Nat.mul_add
abbrev Ev:=@Nat.zero_le
abbrev Ew:=@Int.le_refl
abbrev Ex:=@Rat.intCast_le_intCast
abbrev Ey:=@List.getElem?_toArray
abbrev Ez:=@Nat.le_div_iff_mul_le
abbrev Fa:=@Rat.mkRat_eq_div
abbrev Fb:=@Nat.div_eq_of_lt
abbrev Fc:=@List.drop_length
abbrev Fd9:=@Prod.mk.injEq
abbrev Fe:=@Bool.true_and
abbrev Ff:=@List.mem_append_left
abbrev Fg:=@Nat.div_add_mod
abbrev Fh:=@Nat.div_mul_le_self
abbrev Fi:=@Rat.intCast_natCast
abbrev Fj:=@Nat.le_of_lt
abbrev Fk9:=@Nat.min_self
abbrev Fl:=@Bool.false_eq_true
abbrev Fm9:=@Rat.div_mul_cancel
abbrev Fn9:=@Nat.eq_of_mul_eq_mul_right
abbrev Fo:=@Option.toList_some
abbrev Fp:=@List.getLast?_eq_getElem?
abbrev Fq:=@Int.mul_neg_of_neg_of_pos
abbrev Fr9:=@List.all_eq_false
abbrev Fs9:=@Nat.lt_irrefl
abbrev Ft:=@Int.ofNat.inj
abbrev Fu:=@Option.bind_some
abbrev Fv:=@List.getElem?_cons_succ
abbrev Fw:=@List.length_drop
abbrev Fx:=@List.getLast?_cons_cons
abbrev Fy:=@Nat.gcd_dvd_left
abbrev Fz:=@Nat.min_eq_right
abbrev Ga:=@List.map_set
abbrev Gb:=@Nat.add_comm
abbrev Gc:=@Nat.le_mul_of_pos_left
abbrev Gd:=@List.drop_eq_nil_of_le
abbrev Ge:=@Nat.sub_zero
abbrev Gf:=@List.mem_filter
abbrev Gg:=@Bool.or_eq_true
abbrev Gh:=@Rat.mul_eq_zero
abbrev Gi:=@Int.natAbs_zero
abbrev Gj:=@List.mem_append_right
abbrev Gk:=@Option.map_map
abbrev Gl:=@Rat.mul_nonneg
abbrev Gm:=@Int.toNat_zero
abbrev Gn:=@List.getElem_of_mem
abbrev Go9:=@List.map_cons
abbrev Gp:=@Bool.false_or
abbrev Gq:=@List.getElem?_take
abbrev Gr:=@List.getElem_range
abbrev Gs:=@Nat.sub_self
abbrev Gt:=@Option.isSome_map
abbrev Gu:=@Classical.em
abbrev Gv:=@List.any_eq_false
namespace Go.Vc
open Go Go.RowKit
abbrev View:=Nat->Option (Array Value)
def View.le(V V':View):Prop:=∀b cs,V b=some cs->V' b=some cs
def View.In(V:View)(w:World):Prop:=∀b cs,V b=some cs->∃T fr,w.heap[b]?=some (.cells cs T fr)
def View.load(V:View):Option Addr->Option Value
 | some a=>if a.spot.isSome then none else(V a.block).bind (·[a.off]?)
 | none=>none
def View.has(V:View)(p:Option Addr)(l:List Value):Prop:=∀j v,l[j]?=some v->V.load (p.map (·.add j))=some v
theorem View.le_refl(V:View):V.le V:=λ_ _ h=>h
theorem View.le_trans{V V' V'':View}(h:V.le V')(k:V'.le V''):V.le V'':=λb cs e=>k b cs (h b cs e)
theorem P0o{V V':View}{w:World}(h:V.le V')(k:V'.In w):V.In w:=λb cs e=>k b cs (h b cs e)
theorem H02{V V':View}(h:V.le V'){p:Option Addr}{v:Value}(e:V.load p=some v):V'.load p=some v:=by
 cases p with
 | none=>simp[View.load]at e
 | some a =>
   simp only[View.load]at e ⊢;split at e
   . simp at e
   rename_i hs;rw[if_neg hs];cases hb:V a.block with
   | none=>simp[hb]at e
   | some cs=>rw[h _ _ hb]; simpa [hb]using e
theorem w06{V V':View}(h:V.le V'){p:Option Addr}{l:List Value}(e:V.has p l):V'.has p l :=
 λj v hv=>H02 h (e j v hv)
theorem N04{V:View}{w:World}(h:V.In w){a:Addr}{v:Value}(e:V.load (some a)=some v):w.cell? a=some v:=by
 simp only[View.load]at e;split at e
 . simp at e
 rename_i hs;cases hb:V a.block with
 | none=>simp[hb]at e
 | some cs =>
   obtain⟨T,fr,hw⟩:=h _ _ hb;simp only[World.cell?,hw];rw[if_neg hs];simpa [hb]using e
def View.fresh(V:View)(n:Nat)(V':View):Prop:=∀b cs,V' b=some cs->V b=some cs\/n<=b
theorem O05(V:View)(n:Nat):V.fresh n V:=λ_ _ h => .inl h
theorem g08{V V' V'':View}{n m:Nat}(h:V.fresh n V')(k:V'.fresh m V'')(hn:n<=m):V.fresh n V'':=λb cs e=>by
 rcases k b cs e with h1|h1
 . exact h b cs h1
 exact .inr (Ah hn h1)
structure B05 (B:List Nat) (w w':World):Prop where
 os:w'.os=w.os
 tape:w'.tape=w.tape
 output:w'.output=w.output
 size:w.heap.size<=w'.heap.size
 block:∀k,k<w.heap.size->k∉B->w'.heap[k]?=w.heap[k]?
theorem B05.refl(B:List Nat)(w:World):B05 B w w:=⟨rfl,rfl,rfl,An9 _,λ_ _ _=>rfl⟩
theorem B05.trans{B:List Nat}{a b c:World}(h:B05 B a b)(k:B05 B b c):B05 B a c :=
 ⟨k.os.trans h.os,k.tape.trans h.tape,k.output.trans h.output,Ah h.size k.size,
   λi hi hn=>(k.block i (Cm hi h.size) hn).trans (h.block i hi hn)⟩
theorem B05.drew{B:List Nat}{a w:World}(h:B05 B a w):B05 B a w.drew:=⟨h.os,h.tape,h.output,h.size,h.block⟩
theorem B05.alloc{B:List Nat}{a w:World}(h:B05 B a w)(o:Obj):B05 B a (w.alloc o) :=
 h.trans ⟨rfl,rfl,rfl,by simp,λk hk _=>Below.heap_alloc _ _ _ hk⟩
theorem B05.below{w w':World}(h:B05 [] w w'):Below w.heap.size w w' :=
 ⟨h.os,h.tape,h.output,h.size,λk hk=>h.block k hk (by simp)⟩
theorem B05.of_below{B:List Nat}{w w':World}(h:Below w.heap.size w w'):B05 B w w' :=
 ⟨h.os,h.tape,h.output,h.size,λk hk _=>h.block k hk⟩
def a00(P:Program)(f:FuncId)(args:Array Value)(V:View)(R:Value->View->Prop):Prop :=
 ∀w,V.In w->Calls P f args w λe w'=>∃v V',e = .returned v/\V.le V'/\V'.In w'/\V.fresh w.heap.size V'/\Below w.heap.size w w'/\R v V'
def p0n(P:Program)(f:FuncId)(mk:Nat->List Value)(ty:TypeId)(l:List Value)(V:View)(R:Value->List Value->View->Prop):Prop :=
 ∀w b,V.In w->w.heap[b]?=some (.cells l.toArray ty (0,0))->V b=none->Calls P f (mk b).toArray w λe w'=>∃v V' l',e = .returned v/\V.le V'/\V'.In w' /\
  V.fresh w.heap.size V'/\B05 [b] w w'/\w'.heap[b]?=some (.cells l'.toArray ty (0,0))/\V' b=none/\R v l' V'
def lstA(b cap:Nat):Option Addr:=if cap=0 then none else some ⟨b,0,none⟩
def t0j(b n cap:Nat)(rest:List Value):Value :=
 match rest with
 | [] => .slice (lstA b cap) n cap
 | v::vs => .tuple (Value.slice (lstA b cap) n cap::v::vs).toArray
def j0f(P:Program)(f:FuncId)(args:Array Value)(ty:TypeId)(V:View)(R:Nat->Nat->List Value->List Value->View->Prop):Prop :=
 ∀w,V.In w->Calls P f args w λe w'=>∃(b n cap:Nat) (l rest:List Value) (V':View),e = .returned (t0j b n cap rest)/\V.le V'/\V'.In w'/\V.fresh w.heap.size V'/\Below w.heap.size w w' /\
  (l≠[]->w.heap.size<=b/\w'.heap[b]?=some (.cells l.toArray ty (0,0))/\V' b=none)/\R n cap l rest V'
theorem j0f.mono{P:Program}{f:FuncId}{args:Array Value}{ty:TypeId}{V:View}{R R':Nat->Nat->List Value->List Value->View->Prop}(h:j0f P f args ty V R)
 (hr:∀n cap l rest V',V.le V'->R n cap l rest V'->R' n cap l rest V'):j0f P f args ty V R' :=
 λw hw=>(h w hw).mono λ_ _ ⟨b,n,cap,l,rest,V',he,hl,hi,hf,hb,ho,r⟩=>⟨b,n,cap,l,rest,V',he,hl,hi,hf,hb,ho,hr n cap l rest V' hl r⟩
theorem j0f.known{P:Program}{f:FuncId}{args:Array Value}{ty:TypeId}{V:View}{R:Nat->Nat->List Value->List Value->View->Prop}(h:j0f P f args ty V R) :
 a00 P f args V λv V'=>∃(b n cap:Nat) (l rest:List Value) (V1:View),v=t0j b n cap rest/\V1.le V'/\(l≠[]->V' b=some l.toArray)/\R n cap l rest V1:=by
 intro w hw;refine(h w hw).mono λe w' ⟨b,n,cap,l,rest,V1,he,hl,hi,hf,hb,ho,r⟩ => ?_;by_cases h0:l=[]
 . exact⟨_,V1,he,hl,hi,hf,hb,b,n,cap,l,rest,V1,rfl,View.le_refl V1,λh=>absurd h0 h,r⟩
 obtain⟨h1,h2,h3⟩:=ho h0;refine⟨_,λi=>if i=b then some l.toArray else V1 i,he,?_,?_,?_,hb,b,n,cap,l,rest,V1,rfl,?_,λ_=>by simp,r⟩
 . intro i cs hc;by_cases e:i=b
   . subst e; rw[hl i cs hc]at h3; simp at h3
   simp[e,hl i cs hc]
 . intro i cs hc;by_cases e:i=b
   . subst e; simp at hc; subst hc; exact⟨ty,_,h2⟩
   simp[e]at hc; exact hi i cs hc
 . intro i cs hc;by_cases e:i=b
   . subst e; exact .inr h1
   simp[e]at hc; exact hf i cs hc
 intro i cs hc;by_cases e:i=b
 . subst e; rw[h3]at hc; simp at hc
 simp[e,hc]
def g0i(P:Program)(f:FuncId)(mk:Nat->List Value)(ty:TypeId)(l:List Value)(V:View)(R:List Value->View->Prop):Prop :=
 ∀w b,V.In w->w.heap[b]?=some (.cells l.toArray ty (0,0))->V b=none->Calls P f (mk b).toArray w λe w'=>∃V' l',e = .returned ((mk b).headD undef)/\V.le V'/\V'.In w' /\
  V.fresh w.heap.size V'/\B05 [b] w w'/\w'.heap[b]?=some (.cells l'.toArray ty (0,0))/\V' b=none/\R l' V'
def D0z(P:Program)(f:FuncId)(vs:List Value)(tp e:TypeId)(n cap:Nat)(l:List Value)(V:View)(R:Nat->Nat->List Value->View->Prop):Prop :=
 ∀w b b2,V.In w->w.heap[b]?=some (.cells #[.slice (lstA b2 cap) n cap] tp (0,0))->V b=none->(l≠[]->w.heap[b2]?=some (.cells l.toArray e (0,0))/\V b2=none/\b2≠b) ->
  Calls P f (vs++[Value.pointer (some ⟨b,0,none⟩)]).toArray w λen w'=>∃(V':View) (n' cap':Nat) (l':List Value) (c2:Nat),en = .returned (.tuple #[])/\V.le V'/\V'.In w' /\
   V.fresh w.heap.size V'/\B05 (b::if l=[]then []else [b2]) w w'/\w'.heap[b]?=some (.cells #[.slice (lstA c2 cap') n' cap'] tp (0,0))/\V' b=none /\
   (l'≠[]->w'.heap[c2]?=some (.cells l'.toArray e (0,0))/\V' c2=none/\c2≠b/\(w.heap.size<=c2\/(l≠[]/\c2=b2)))/\R n' cap' l' V'
theorem g0i.mono{P:Program}{f:FuncId}{mk:Nat->List Value}{ty:TypeId}{l:List Value}{V:View}{R R':List Value->View->Prop}(h:g0i P f mk ty l V R)
 (hr:∀l' V',V.le V'->R l' V'->R' l' V'):g0i P f mk ty l V R' :=
 λw b hw h1 h2=>(h w b hw h1 h2).mono λ_ _ ⟨V',l',he,hl,hi,hf,hb,h3,h4,r⟩=>⟨V',l',he,hl,hi,hf,hb,h3,h4,hr l' V' hl r⟩
theorem p0n.mono{P:Program}{f:FuncId}{mk:Nat->List Value}{ty:TypeId}{l:List Value}{V:View}{R R':Value->List Value->View->Prop}(h:p0n P f mk ty l V R)
 (hr:∀v l' V',V.le V'->R v l' V'->R' v l' V'):p0n P f mk ty l V R' :=
 λw b hw h1 h2=>(h w b hw h1 h2).mono λ_ _ ⟨v,V',l',he,hl,hi,hf,hb,h3,h4,r⟩=>⟨v,V',l',he,hl,hi,hf,hb,h3,h4,hr v l' V' hl r⟩
def View.Lies(m V:View)(w:World):Prop:=∀b cs,m b=some cs->(∃T,w.heap[b]?=some (.cells cs T (0,0)))/\V b=none
def View.dom(m:View)(n:Nat):List Nat:=(List.range n).filter λb=>(m b).isSome
def f03(P:Program)(f:FuncId)(args:Array Value)(m V:View)(R:Value->View->View->Prop):Prop :=
 ∀w,V.In w->m.Lies V w->Calls P f args w λe w'=>∃(v:Value) (m' V':View),e = .returned v/\V.le V'/\V'.In w'/\V.fresh w.heap.size V' /\
  B05 (m.dom w.heap.size) w w'/\m'.Lies V' w'/\(∀b,m' b≠none->m b≠none\/w.heap.size<=b)/\R v m' V'
def View.Fin(V:View):Prop:=∃n,∀b,n<=b->V b=none
theorem View.In.fin{V:View}{w:World}(h:V.In w):V.Fin:=⟨w.heap.size,λb hb=>by
 cases hv:V b with
 | none=>rfl
 | some cs=>obtain⟨T,fr,hw⟩:=h b cs hv; rw[Au hb]at hw; simp at hw⟩
theorem f03.mono{P:Program}{f:FuncId}{args:Array Value}{m V:View}{R R':Value->View->View->Prop}(h:f03 P f args m V R)
 (hr:∀v m' V',V.le V'->V'.Fin->R v m' V'->R' v m' V'):f03 P f args m V R' :=
 λw hw hm=>(h w hw hm).mono λ_ _ ⟨v,m',V',he,hl,hi,hf,hb,h3,h4,r⟩=>⟨v,m',V',he,hl,hi,hf,hb,h3,h4,hr v m' V' hl hi.fin r⟩
theorem D0z.mono{P:Program}{f:FuncId}{vs:List Value}{tp e:TypeId}{n cap:Nat}{l:List Value}{V:View}{R R':Nat->Nat->List Value->View->Prop}(h:D0z P f vs tp e n cap l V R)
 (hr:∀n' cap' l' V',V.le V'->V'.Fin->R n' cap' l' V'->R' n' cap' l' V'):D0z P f vs tp e n cap l V R' :=
 λw b b2 hw h1 h2 h3=>(h w b b2 hw h1 h2 h3).mono λ_ _ ⟨V',n',cap',l',c2,he,hl,hi,hf,hb,h4,h5,h6,r⟩=>⟨V',n',cap',l',c2,he,hl,hi,hf,hb,h4,h5,h6,hr n' cap' l' V' hl hi.fin r⟩
theorem View.Fin.world{V:View}(h:V.Fin):∃w,V.In w:=by
 obtain⟨n,hn⟩:=h;refine⟨{ (default:World)with heap:=(Array.range n).map λb => .cells ((V b).getD #[]) 0 },λb cs hb => ?_⟩;have hlt:b<n:=by
  rcases Ad b n with h|h
  . exact h
  rw[hn b h]at hb; simp at hb
 exact⟨0,(0,0),by simp[hlt,hb]⟩
theorem a00.mono'{P:Program}{f:FuncId}{args:Array Value}{V:View}{R R':Value->View->Prop}(h:a00 P f args V R)
 (hr:∀v V',V.le V'->V'.Fin->R v V'->R' v V'):a00 P f args V R' :=
 λw hw=>(h w hw).mono λ_ _ ⟨v,V',he,hl,hi,hf,hb,r⟩=>⟨v,V',he,hl,hi,hf,hb,hr v V' hl hi.fin r⟩
theorem a00.inst{P:Program}{f:FuncId}{args:Array Value}{V:View}{R:Value->View->Prop}(hV:V.Fin)(h:a00 P f args V R) :
 ∃v V',V.le V'/\V'.Fin/\R v V':=by
 obtain⟨w,hw⟩:=hV.world;obtain⟨_,_,_,⟨v,V',_,hl,hi,_,_,r⟩,_⟩:=h w hw [];exact⟨v,V',hl,hi.fin,r⟩
theorem a00.mono{P:Program}{f:FuncId}{args:Array Value}{V:View}{R R':Value->View->Prop}(h:a00 P f args V R)
 (hr:∀v V',V.le V'->R v V'->R' v V'):a00 P f args V R' :=
 λw hw=>(h w hw).mono λ_ _ ⟨v,V',he,hl,hi,hf,hb,r⟩=>⟨v,V',he,hl,hi,hf,hb,hr v V' hl r⟩
inductive SV where
 | val (v:Value)
 | lit (b:Bool)
 | own (id off:Nat)
 | osl (id off len cap:Nat)
 | clo (f:FuncId) (ids:List Nat)
 | lst (id n cap:Nat)
 | tlst (id n cap:Nat) (rest:List Value)
 | les (id n cap:Nat)
 | any
inductive Cs where
 | fixed (l:List SV)
 | dyn (l:List Value)
 | list (l:List Value)
 | reg (m:View)
def Cs.real:Cs->Prop
 | .list l=>l≠[]
 | .reg _=>False
 | _=>True
structure OB where
 ty:TypeId
 cs:Cs
structure St where
 tm:List SV
 own:List (Option OB)
def SV.asVal:SV->Option Value
 | .val v=>some v
 | .lit b=>some (.bool b)
 | _=>none
def St.ev(σ:St):Operand->SV
 | .tmp t=>σ.tm.getD t .any
 | .const v => .val v
 | .global g => .val (.pointer (some ⟨g,0,none⟩))
 | .func f => .val (.func (.func f) #[] #[])
def St.put(σ:St)(dst:Option Tmp)(v:SV):St :=
 match dst with
 | some d=>{ σ with tm:=σ.tm.set d v }
 | none=>σ
def kind:Option OB->Nat
 | none=>0
 | some ob=>match ob.cs with
   | .list _=>2
   | .reg _=>3
   | _=>1
@[simp] theorem O13 (ty : TypeId) (l : List SV) : kind (some ⟨ty, .fixed l⟩) = 1 := rfl
@[simp] theorem w15 (ty : TypeId) (l : List Value) : kind (some ⟨ty, .dyn l⟩) = 1 := rfl
@[simp] theorem y15 (ty : TypeId) (m : View) : kind (some ⟨ty, .reg m⟩) = 3 := rfl
@[simp] theorem P13 (ty : TypeId) (l : List Value) : kind (some ⟨ty, .list l⟩) = 2 := rfl
def Rel(addr:Nat->Nat)(own:List (Option OB)):SV->Value->Prop
 | .val v,x=>x=v
 | .lit b,x=>x = .bool b
 | .own id off,x=>kind (own.getD id none)=1/\x = .pointer (some ⟨addr id,off,none⟩)
 | .osl id off len cap,x=>kind (own.getD id none)=1/\x = .slice (some ⟨addr id,off,none⟩) len cap
 | .clo f ids,x=>(∀id∈ids,kind (own.getD id none)=1)/\x = .func (.func f) #[] (ids.map λid=>Value.pointer (some ⟨addr id,0,none⟩)).toArray
 | .lst id n cap,x=>kind (own.getD id none)=2/\x = .slice (if cap=0 then none else some ⟨addr id,0,none⟩) n cap
 | .tlst id n cap rest,x=>kind (own.getD id none)=2/\x = .tuple (Value.slice (if cap=0 then none else some ⟨addr id,0,none⟩) n cap::rest).toArray
 | .les id n cap,x=>kind (own.getD id none)=2/\x = .slice (some ⟨addr id,0,none⟩) n cap
 | .any,_=>True
def X06(addr:Nat->Nat)(own:List (Option OB))(cs:Cs)(arr:Array Value):Prop :=
 match cs with
 | .fixed l=>arr.size=l.length/\∀i,i<l.length->Rel addr own (l.getD i .any) (arr.getD i undef)
 | .dyn l=>arr=l.toArray
 | .list l=>arr=l.toArray
 | .reg _=>True
structure j0u (L:List Nat) (n:Nat) (own:List (Option OB)) (V:View) (w:World) (addr:Nat->Nat):Prop where
 at_:∀id ty m,own.getD id none=some ⟨ty,.reg m⟩->∀b cs,m b=some cs->(∃T,w.heap[b]?=some (.cells cs T (0,0)))/\(n<=b\/(ty=1/\b∈L))/\V b=none/\∀i ob,own.getD i none=some ob->ob.cs.real->addr i≠b
 one:∀id id' ty ty' m m',own.getD id none=some ⟨ty,.reg m⟩->own.getD id' none=some ⟨ty',.reg m'⟩->id=id'
theorem n0w{ob:OB}(h:ob.cs.real):kind (some ob)≠3:=by
 obtain⟨ty,cs⟩:=ob;cases cs with
 | fixed l=>simp
 | dyn l=>simp
 | list l=>simp
 | reg m=>exact absurd h id
theorem N0l{ob:OB}{ty:TypeId}{m:View}(h:some ob=some ⟨ty,.reg m⟩):kind (some ob)=3:=by rw[h]; rfl
theorem j0u.step{L:List Nat}{n:Nat}{own own':List (Option OB)}{V V':View}{w w':World}{addr addr':Nat->Nat}(h:j0u L n own V w addr)
 (ha:∀id ty m,own'.getD id none=some ⟨ty,.reg m⟩->own.getD id none=some ⟨ty,.reg m⟩)
 (hb:∀b,b<w.heap.size->(∀i ob,own.getD i none=some ob->ob.cs.real->addr i≠b)->w'.heap[b]?=w.heap[b]?)
 (hv:∀b cs,V' b=some cs->V b=some cs\/w.heap.size<=b\/∃i ob,own.getD i none=some ob/\ob.cs.real/\addr i=b)
 (hd:∀i ob,own'.getD i none=some ob->ob.cs.real->(∃i' ob',own.getD i' none=some ob'/\ob'.cs.real/\addr' i=addr i')\/w.heap.size<=addr' i):j0u L n own' V' w' addr':=by
 refine⟨λid ty m hm b cs hcs => ?_,λid id' ty ty' m m' h1 h2=>h.one _ _ _ _ _ _ (ha _ _ _ h1) (ha _ _ _ h2)⟩;obtain⟨⟨T,hT⟩,h2,h3,h4⟩:=h.at_ id ty m (ha _ _ _ hm) b cs hcs;have hlt:b<w.heap.size:=by
  refine Em λc => ?_;rw[Au c]at hT; exact absurd hT (by simp)
 refine⟨⟨T,by rw[hb b hlt h4]; exact hT⟩,h2,?_,λi ob hi hr e => ?_⟩
 . cases e:V' b with
   | none=>rfl
   | some cs' =>
     rcases hv b cs' e with g|g|⟨i,ob,g1,g2,g3⟩
     . rw[h3]at g; exact absurd g (by simp)
     . omega
     exact absurd g3 (h4 i ob g1 g2)
 rcases hd i ob hi hr with⟨i',ob',g1,g2,g3⟩|g
 . exact h4 i' ob' g1 g2 (by rw[<-g3]; exact e)
 omega
theorem j0u.none{L:List Nat}{n:Nat}{own:List (Option OB)}{V:View}{w:World}{addr:Nat->Nat}(h:∀id ty m,own.getD id .none=some ⟨ty,.reg m⟩->False):j0u L n own V w addr :=
 ⟨λid ty m g=>(h id ty m g).elim,λid _ ty _ m _ g=>(h id ty m g).elim⟩
structure Base where
 w:World
 V:View
 A:List Nat
 R:List Nat
structure Conc (B:List (Nat×Nat)) (w0:Base) (σ:St) (V:View) (a:Act) (w:World) (addr:Nat->Nat):Prop where
 size:a.tmps.size=σ.tm.length
 osize:σ.own.length=σ.tm.length
 rel:∀i,i<σ.tm.length->Rel addr σ.own (σ.tm.getD i .any) (a.tmps.getD i undef)
 defers:a.defers=[]
 blk:∀id ob,σ.own.getD id none=some ob->ob.cs.real->∃arr,w.heap[addr id]?=some (.cells arr ob.ty (0,0))/\X06 addr σ.own ob.cs arr
 lo:∀id ob,σ.own.getD id none=some ob->ob.cs.real->w0.w.heap.size<=addr id\/addr id∈B.map (·.2)++w0.A
 lent:∀p,p∈B->addr p.1=p.2/\kind (σ.own.getD p.1 none)=1
 out:∀id ob,σ.own.getD id none=some ob->ob.cs.real->V (addr id)=none
 inj:∀id id' ob ob',σ.own.getD id none=some ob->σ.own.getD id' none=some ob'->ob.cs.real->ob'.cs.real->addr id=addr id'->id=id'
 vin:V.In w
 below:B05 (B.map (·.2)++w0.A++w0.R) w0.w w
 fresh:w0.V.fresh w0.w.heap.size V
 reg:j0u w0.R w0.w.heap.size σ.own V w addr
theorem Conc.eval{B w0 σ V a w addr}(h:Conc B w0 σ V a w addr)(x:Operand):Rel addr σ.own (σ.ev x) (a.eval x):=by
 cases x with
 | tmp t =>
   simp only[St.ev,Act.eval];by_cases ht:t<σ.tm.length
   . exact h.rel t ht
   have:σ.tm.getD t .any = .any:=by simp[List.getD,Ab (Nat.le_of_not_lt ht)]
   rw[this]; trivial
 | const v=>rfl
 | global g=>rfl
 | func f=>rfl
theorem Rel.asVal{addr own}{s:SV}{x v:Value}(h:Rel addr own s x)(hv:s.asVal=some v):x=v:=by
 cases s<;>simp[SV.asVal]at hv<;>subst hv<;>exact h
theorem Rel.own_mono{addr addr':Nat->Nat}{own own':List (Option OB)}(hl:∀id,kind (own.getD id none)≠0->kind (own'.getD id none)=kind (own.getD id none)/\addr' id=addr id)
 {s:SV} {x:Value} (h:Rel addr own s x):Rel addr' own' s x:=by
 have h1:∀ {id},kind (own.getD id none)=1->kind (own'.getD id none)=1/\addr' id=addr id:=λ{id} e=>by
  have:=hl id (by omega); exact⟨by omega,this.2⟩
 cases s with
 | val v=>exact h
 | lit b=>exact h
 | own id off=>exact⟨(h1 h.1).1,by rw[(h1 h.1).2]; exact h.2⟩
 | osl id off len cap=>exact⟨(h1 h.1).1,by rw[(h1 h.1).2]; exact h.2⟩
 | clo f ids =>
   refine⟨λid hid=>(h1 (h.1 id hid)).1,?_⟩;rw[h.2];congr 2;exact Ch λid hid=>by rw[(h1 (h.1 id hid)).2]
 | lst id n cap =>
   have h2:=hl id (by have:=h.1; omega);exact⟨by have:=h.1; omega,by rw[h2.2]; exact h.2⟩
 | tlst id n cap rest =>
   have h2:=hl id (by have:=h.1; omega);exact⟨by have:=h.1; omega,by rw[h2.2]; exact h.2⟩
 | les id n cap =>
   have h2:=hl id (by have:=h.1; omega);exact⟨by have:=h.1; omega,by rw[h2.2]; exact h.2⟩
 | any=>trivial
theorem X06.own_mono{addr addr':Nat->Nat}{own own':List (Option OB)}(hl:∀id,kind (own.getD id none)≠0->kind (own'.getD id none)=kind (own.getD id none)/\addr' id=addr id)
 {cs:Cs} {arr:Array Value} (h:X06 addr own cs arr):X06 addr' own' cs arr:=by
 cases cs with
 | fixed l=>exact⟨h.1,λi hi=>Rel.own_mono hl (h.2 i hi)⟩
 | dyn l=>exact h
 | list l=>exact h
 | reg m=>exact h
theorem Conc.put{B w0 σ V a w addr}(h:Conc B w0 σ V a w addr)(dst:Option Tmp){s:SV}{x:Value}(hs:Rel addr σ.own s x) :
 Conc B w0 (σ.put dst s) V (a.put dst x) w addr:=by
 cases dst with
 | none=>exact h
 | some d =>
   refine⟨by simp[St.put,Act.put,h.size],by simp[St.put,h.osize],λi hi => ?_,h.defers,h.blk,h.lo,h.lent,h.out,h.inj,h.vin,h.below,h.fresh,h.reg⟩;simp only[St.put,Dg]at hi;simp only[St.put,Act.put];have hsz:=h.size;by_cases hd:d=i
   . subst hd;have h1:d<a.tmps.size:=hsz▸hi;simpa [List.getD,As,hi,Ai,h1]using hs
   have:=h.rel i hi;simpa [List.getD,As,hd,Ai,Array.getElem?_setIfInBounds_ne hd]using this
theorem Conc.drew{B w0 σ V a w addr}(h:Conc B w0 σ V a w addr):Conc B w0 σ V a w.drew addr :=
 ⟨h.size,h.osize,h.rel,h.defers,h.blk,h.lo,h.lent,h.out,h.inj,h.vin,h.below.drew,h.fresh,h.reg.step (λ_ _ _ h=>h) (λ_ _ _=>rfl) (λ_ _ h => .inl h) (λi ob h hr => .inl ⟨i,ob,h,hr,rfl⟩)⟩
abbrev Gw:=@View.le_refl
abbrev Gx:=@View.le_trans
abbrev Gy:=@Rel.own_mono
abbrev Gz:=@X06.own_mono
