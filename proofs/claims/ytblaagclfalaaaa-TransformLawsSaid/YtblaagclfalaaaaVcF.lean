/- Part of the proof; it has the parts VcF. -/
import Derived.Test.YtblaagclfalaaaaVcE
namespace Go.Vc
open Go Go.RowKit
def wrA(an:An):Bool:=an.fl==3||an.fl==6||an.fl==16||an.fl==23
def clsA(an:An):Nat:=match an.fl with|10=>2|11=>1|13=>5|14=>3|15=>4|17=>4|18=>3|19=>3|21=>3|24=>6|25=>6|26=>6|_=>0
theorem fin_ex{sp:Bool}{s:SV}{k:SV->Prop}(h:fin sp s k):∃s',k s'/\fin sp s (λt=>t=s'):=by
 revert h; unfold fin
 split
 . intro h; exact⟨_,h,rfl⟩
 . split
   . intro h; exact⟨_,h,rfl⟩
   . rename_i b
     intro h
     cases b with
     | true=>exact⟨_,h.1 rfl,⟨λ_=>rfl,by simp⟩⟩
     | false=>exact⟨_,h.2 rfl,⟨by simp,λ_=>rfl⟩⟩
   . intro h; exact h.elim
theorem fin_mono{sp:Bool}{s:SV}{k k':SV->Prop}(hk:∀s,k s->k' s)(h:fin sp s k):fin sp s k':=by
 revert h; unfold fin
 split
 . exact hk _
 . split
   . exact hk _
   . intro h; exact⟨λe=>hk _ (h.1 e),λe=>hk _ (h.2 e)⟩
   . exact id
def EA(P:Program)(Shp:Shapes)(an:An)(o:Oper)(g:Option Bool)(ev:Operand->SV)(blk:Option (Option OB))(V:View)(s:SV)(ob:Option OB):Prop :=
 match g with
 | some true=>coreT P Shp V an o ev blk λs0 ob0=>fin an.sp s0 (λs1=>s1=s)/\ob0=ob
 | some false=>s = .val undef/\(blk=some ob\/blk=none)
 | none=>False
theorem setOwn_none{σ:St}{rt:Nat}{b:Option OB}(h:σ.own[rt]?=none):σ.setOwn rt b=σ:=by
 unfold St.setOwn
 congr 1
 have:σ.own.length<=rt:=by
  rcases Nat.lt_or_ge rt σ.own.length with h'|h'
  . rw[List.getElem?_eq_getElem h']at h; simp at h
  . exact h'
 exact List.set_eq_of_length_le this
theorem act_core{P:Program}{Shp an o σ V}{K:St->View->Prop}(hcl:clsA an=0) :
 actT P Shp an o σ V K=coreT P Shp V an o σ.ev σ.own[an.rt]? λs ob=>fin an.sp s λs=>K ((σ.setOwn an.rt ob).put o.dst s) V:=by
 unfold actT
 split
 all_goals first
  | rfl
  | (rename_i h; simp[clsA,h]at hcl; done)
theorem A_elim{P:Program}{Shp ops an o σ V}{K:St->View->Prop}(hcl:clsA an=0)(h:stepT P Shp ops an o σ V K) :
 ∃s ob,EA P Shp an o (guardOf ops o σ) σ.ev σ.own[an.rt]? V s ob/\K ((σ.setOwn an.rt ob).put o.dst s) V:=by
 unfold stepT at h
 split at h
 . rename_i hg
   rw[act_core hcl]at h
   obtain⟨s,ob,hk,hc⟩:=coreT_ex h
   obtain⟨s',hk',hf⟩:=fin_ex hk
   refine⟨s',ob,?_,hk'⟩
   rw[hg]
   exact coreT_mono (λs0 ob0 ⟨e1,e2⟩=>⟨by rw[e1]; exact hf,e2⟩) hc
 . rename_i hg
   cases hb:σ.own[an.rt]? with
   | none=>exact⟨.val undef,none,by rw[hg]; exact⟨rfl,.inr rfl⟩,by rw[setOwn_none hb]; exact h⟩
   | some b=>exact⟨.val undef,b,by rw[hg]; exact⟨rfl,.inl rfl⟩,by rw[setOwn_self hb]; exact h⟩
 . exact h.elim
theorem A_intro{P:Program}{Shp ops an o σ V s ob}{K:St->View->Prop}(hcl:clsA an=0)(h:EA P Shp an o (guardOf ops o σ) σ.ev σ.own[an.rt]? V s ob)
 (hk:K ((σ.setOwn an.rt ob).put o.dst s) V):stepT P Shp ops an o σ V K:=by
 unfold stepT
 cases hg:guardOf ops o σ with
 | none=>rw[hg]at h; exact h.elim
 | some g =>
   rw[hg]at h
   cases g with
   | true =>
     simp only[]
     rw[act_core hcl]
     refine coreT_mono (λs0 ob0 ⟨h1,h2⟩ => ?_) h
     subst h2
     exact fin_mono (λs1 e=>by rw[e]; exact hk) h1
   | false =>
     simp only[]
     obtain⟨rfl,hb⟩:=h
     rcases hb with hb|hb
     . rw[setOwn_self hb]at hk; exact hk
     . rw[setOwn_none hb]at hk; exact hk
theorem EA_view{P:Program}{Shp an o g ev blk V V' s ob}(hV:View.le V V')(h:EA P Shp an o g ev blk V s ob):EA P Shp an o g ev blk V' s ob:=by
 cases g with
 | none=>exact h
 | some g=>cases g with
   | true=>exact coreT_view hV h
   | false=>exact h
theorem EA_congr{P:Program}{Shp an o g ev ev' blk V s ob}(hev:∀x∈o.op.operands,ev x=ev' x)(h:EA P Shp an o g ev blk V s ob):EA P Shp an o g ev' blk V s ob:=by
 cases g with
 | none=>exact h
 | some g=>cases g with
   | true=>exact coreT_congr hev h
   | false=>exact h
theorem EA_same{P:Program}{Shp an o g ev blk V s ob}(hw:wrA an=false)(h:EA P Shp an o g ev blk V s ob):blk=some ob\/blk=none:=by
 cases g with
 | none=>exact h.elim
 | some g=>cases g with
   | false=>exact h.2
   | true =>
     cases blk with
     | none=>exact .inr rfl
     | some b =>
       have h3:an.fl≠3:=by intro e; simp[wrA,e]at hw
       have h6:an.fl≠6:=by intro e; simp[wrA,e]at hw
       have h16:an.fl≠16:=by intro e; simp[wrA,e]at hw
       have h23:an.fl≠23:=by intro e; simp[wrA,e]at hw
       obtain⟨s0,ob0,⟨rfl,_,rfl⟩,_⟩:=coreT_ex (coreT_same h3 h6 h16 h23 h)
       exact .inl rfl
theorem own_other{σ:St}{r r':Nat}{ob:Option OB}(h:r≠r'):(σ.setOwn r ob).own[r']?=σ.own[r']?:=by
 simp[St.setOwn,List.getElem?_set_ne h]
theorem put_own{σ:St}{d:Option Tmp}{s:SV}:(σ.put d s).own=σ.own:=by cases d<;>rfl
theorem ev_put{σ:St}{d:Option Tmp}{s:SV}{x:Operand}(h:∀t,d=some t->x ≠ .tmp t):(σ.put d s).ev x=σ.ev x:=by
 cases d with
 | none=>rfl
 | some t =>
   cases x with
   | tmp u =>
     have hne:t≠u:=λe=>h t rfl (e▸rfl)
     simp[St.ev,St.put,List.getD,List.getElem?_set_ne hne]
   | const v=>rfl
   | global g=>rfl
   | func f=>rfl
theorem ev_setOwn{σ:St}{r:Nat}{ob:Option OB}{x:Operand}:(σ.setOwn r ob).ev x=σ.ev x:=by cases x<;>rfl
theorem guardOf_put{ops:Array Oper}{o:Oper}{σ:St}{d:Option Tmp}{s:SV}(h:∀t,d=some t->t∉o.looksAt ops):guardOf ops o (σ.put d s)=guardOf ops o σ:=by
 unfold guardOf
 cases hg:o.guard with
 | none=>rfl
 | some g =>
   obtain⟨j,want⟩:=g
   simp only[]
   cases ht:(ops[j]?).bind (·.dst)with
   | none=>rfl
   | some t =>
     simp only[]
     cases d with
     | none=>rfl
     | some u =>
       have hne:u≠t:=by
        rintro rfl
        refine h u rfl ?_
        simp[Oper.looksAt,hg,ht]
       have:(σ.put (some u) s).tm.getD t .any=σ.tm.getD t .any:=by simp[St.put,List.getD,List.getElem?_set_ne hne]
       rw[this]
theorem guardOf_setOwn{ops:Array Oper}{o:Oper}{σ:St}{r:Nat}{ob:Option OB}:guardOf ops o (σ.setOwn r ob)=guardOf ops o σ:=rfl
theorem operand_looks{ops:Array Oper}{o:Oper}{d:Option Tmp}(h:∀t,d=some t->t∉o.looksAt ops):∀x∈o.op.operands,∀t,d=some t->x ≠ .tmp t:=by
 intro x hx t ht e
 refine h t ht ?_
 subst e
 simp only[Oper.looksAt,List.mem_append,List.mem_filterMap]
 exact .inl ⟨.tmp t,by simpa using hx,rfl⟩
theorem St.put_comm{σ:St}{d d':Option Tmp}{s s':SV}(h:∀t,d=some t->d'≠some t):(σ.put d s).put d' s'=(σ.put d' s').put d s:=by
 cases d with
 | none=>rfl
 | some t=>cases d' with
   | none=>rfl
   | some t' =>
     have hne:t≠t':=λe=>h t rfl (by rw[e])
     simp only[St.put]
     congr 1
     exact List.set_comm _ _ hne
theorem setOwn_put{σ:St}{r:Nat}{ob:Option OB}{d:Option Tmp}{s:SV}:(σ.put d s).setOwn r ob=(σ.setOwn r ob).put d s:=by cases d<;>rfl
theorem setOwn_comm{σ:St}{r r':Nat}{ob ob':Option OB}(h:r≠r'):(σ.setOwn r ob).setOwn r' ob'=(σ.setOwn r' ob').setOwn r ob:=by
 simp only[St.setOwn]
 congr 1
 exact List.set_comm _ _ h
def blindOp(o:Oper)(an:An):Bool :=
 match an.fl,an.sp,o.op with
 | 7,false,.fieldAddr _ _ _=>true
 | 7,false,.indexAddr _ _ _=>true
 | 5,false,.load _ _=>true
 | 2,false,.move _=>true
 | 2,false,.assign _=>true
 | _,_,_=>false
def indepT(ops:Array Oper)(y x:Oper×An):Bool :=
 Oper.apart ops x.1 y.1 &&
 match clsA y.2,clsA x.2 with
 | 0,0 => !(Nat.beq y.2.rt x.2.rt)||(!wrA y.2 && !wrA x.2)
 | 0,1=>true
 | 1,1=>true
 | 2,1=>true
 | 0,2=>true
 | 0,4=>true
 | 0,5=>blindOp y.1 y.2 && !(Nat.beq y.2.rt x.2.rt)
 | 0,6 => !(Nat.beq y.2.rt x.2.rt)
 | _,_=>false
section swap
variable {P:Program} {Shp:Shapes} {ops:Array Oper} {oy ox:Oper} {ay ax:An} {σ:St} {V:View} {K:St->View->Prop}
theorem swapAA(hap:ox.apart ops oy=true)(hy:clsA ay=0)(hx:clsA ax=0)(hrt:ay.rt≠ax.rt\/(wrA ay=false/\wrA ax=false))
 (h:stepT P Shp ops ay oy σ V λσ1 V1=>stepT P Shp ops ax ox σ1 V1 K):stepT P Shp ops ax ox σ V λσ1 V1=>stepT P Shp ops ay oy σ1 V1 K:=by
 obtain⟨hdx,hdd,hdy⟩:=Oper.apart_spec hap
 obtain⟨sy,oby,hEy,h⟩:=A_elim hy h
 obtain⟨sx,obx,hEx,h⟩:=A_elim hx h
 rw[guardOf_put hdy,guardOf_setOwn,put_own]at hEx
 have hEx:EA P Shp ax ox (guardOf ops ox σ) σ.ev (σ.setOwn ay.rt oby).own[ax.rt]? V sx obx :=
  EA_congr (λx hx=>by rw[ev_put (operand_looks hdy x hx),ev_setOwn]) hEx
 have hown:(σ.setOwn ay.rt oby).own[ax.rt]?=σ.own[ax.rt]?:=by
  rcases hrt with h1|⟨h1,h2⟩
  . exact own_other h1
  . rcases EA_same h1 hEy with e|e
    . rw[setOwn_self e]
    . rw[setOwn_none e]
 rw[hown]at hEx
 refine A_intro hx hEx (A_intro hy (s:=sy) (ob:=oby) ?_ ?_)
 . rw[guardOf_put hdx,guardOf_setOwn,put_own]
   have hown':(σ.setOwn ax.rt obx).own[ay.rt]?=σ.own[ay.rt]?:=by
    rcases hrt with h1|⟨h1,h2⟩
    . exact own_other (λe=>h1 e.symm)
    . rcases EA_same h2 hEx with e|e
      . rw[setOwn_self e]
      . rw[setOwn_none e]
   rw[hown']
   exact EA_congr (λx hx=>by rw[ev_put (operand_looks hdx x hx),ev_setOwn]) hEy
 . have e:(((σ.setOwn ax.rt obx).put ox.dst sx).setOwn ay.rt oby).put oy.dst sy=(((σ.setOwn ay.rt oby).put oy.dst sy).setOwn ax.rt obx).put ox.dst sx:=by
     rw[setOwn_put,setOwn_put,St.put_comm hdd]
     congr 2
     rcases hrt with h1|⟨h1,h2⟩
     . exact setOwn_comm (λe=>h1 e.symm)
     . have ey:=EA_same h1 hEy
       have ex:=EA_same h2 hEx
       have:∀ {r:Nat} {b:Option OB} {τ:St},(τ.own[r]?=some b\/τ.own[r]?=none)->τ.setOwn r b=τ:=by
        intro r b τ hh; rcases hh with hh|hh
        . exact setOwn_self hh
        . exact setOwn_none hh
       rw[this ex,this ey,this ex]
   rw[e]; exact h
theorem build_congr{o:Oper}{σ σ':St}{K K':St->View->Prop}(hev:∀x∈o.op.operands,σ.ev x=σ'.ev x)
 (hk:∀s V',V.le V'->V'.Fin->K (σ.put o.dst s) V'->K' (σ'.put o.dst s) V') (h:buildT P o σ V K):buildT P o σ' V K':=by
 revert h; unfold buildT
 rw[buildC_congr hev]
 split
 . intro h b V' hle hfin hb; exact hk _ _ hle hfin (h b V' hle hfin hb)
 . exact id
theorem resT_mono{ts:List TypeId}{v:Value}{k k':SV->Prop}(hk:∀s,k s->k' s)(h:resT Shp ts v k):resT Shp ts v k':=by
 revert h; unfold resT
 split
 . rintro⟨h1,h2⟩; exact⟨h1,hk _ h2⟩
 . rintro⟨x,h1,h2⟩; exact⟨x,h1,hk _ h2⟩
 . rintro⟨x,y,h1,h2⟩; exact⟨x,y,h1,hk _ h2⟩
 . rintro⟨x,y,z,h1,h2⟩; exact⟨x,y,z,h1,hk _ h2⟩
 . rintro⟨x,y,z,q,h1,h2⟩; exact⟨x,y,z,q,h1,hk _ h2⟩
 . exact id
theorem callQ_congr{o:Oper}{ev ev':Operand->SV}(hev:∀x∈o.op.operands,ev x=ev' x):callQ P o ev=callQ P o ev':=by
 unfold callQ
 split
 . rename_i c hop
   split
   . rename_i fo hcal
     rw[hev fo (by simp[hop,Op.operands,Call.operands,hcal])]
     rw[argVals_congr (ev:=ev) (ev':=ev') (l:=c.args.toList) (λx hx=>hev x (by simp at hx; simp[hop,Op.operands,Call.operands,hx]))]
   . rename_i r name hcal
     rw[hev r (by simp[hop,Op.operands,Call.operands,hcal])]
     rw[argVals_congr (ev:=ev) (ev':=ev') (l:=c.args.toList) (λx hx=>hev x (by simp at hx; simp[hop,Op.operands,Call.operands,hx]))]
   . rfl
 . rfl
theorem call_congr{sp:Bool}{o:Oper}{σ σ':St}{K K':St->View->Prop}(hev:∀x∈o.op.operands,σ.ev x=σ'.ev x)
 (hk:∀s V',V.le V'->V'.Fin->K (σ.put o.dst s) V'->K' (σ'.put o.dst s) V') (h:callT P Shp sp o σ V K):callT P Shp sp o σ' V K':=by
 revert h; unfold callT
 rw[callQ_congr hev]
 split
 . intro h
   exact h.mono' λv V' hle hfin hr=>resT_mono (λs hs=>fin_mono (λs' hs'=>hk s' V' hle hfin hs') hs) hr
 . exact id
theorem CallV.wider{f:FuncId}{args:Array Value}{V V':View}{R:Value->View->Prop}(hle:V.le V')(h:CallV P f args V R) :
 CallV P f args V' λv V2=>∃V1,View.le V1 V2/\View.le V V1/\R v V1:=by
 intro w hw
 refine(h w (View.In_of_le hle hw)).mono λe w' ⟨v,V1,he,hl1,hin1,hf1,hb,hr⟩ => ?_
 let V2:View:=λi=>match V' i with|some cs=>some cs|none=>V1 i
 have hinV':V'.In w':=by
  intro b cs hb'
  obtain⟨T,fr,hwb⟩:=hw b cs hb'
  refine⟨T,fr,?_⟩
  rw[hb.block b (by
   rcases Nat.lt_or_ge b w.heap.size with h|h
   . exact h
   . rw[Array.getElem?_eq_none h]at hwb; simp at hwb)]
  exact hwb
 refine⟨v,V2,he,?_,?_,?_,hb,V1,?_,hl1,hr⟩
 . intro b cs hb'; simp[V2,hb']
 . intro b cs hb'
   simp only[V2]at hb'
   split at hb'
   . rename_i ds hd; cases hb'; exact hinV' b _ hd
   . exact hin1 b cs hb'
 . intro b cs hb'
   simp only[V2]at hb'
   split at hb'
   . rename_i ds hd; cases hb'; exact .inl hd
   . rename_i hd
     rcases hf1 b cs hb' with h1|h1
     . rw[hle b cs h1]at hd; simp at hd
     . exact .inr h1
 . intro b cs hb'
   simp only[V2]
   split
   . rename_i ds hd
     obtain⟨T,fr,h1⟩:=hinV' b ds hd
     obtain⟨T',fr',h2⟩:=hin1 b cs hb'
     rw[h1]at h2; simp at h2; simp[h2.1]
   . exact hb'
theorem step_cases{an:An}{o:Oper}(h:stepT P Shp ops an o σ V K) :
 (guardOf ops o σ=some true/\actT P Shp an o σ V K)\/(guardOf ops o σ=some false/\K (σ.put o.dst (.val undef)) V):=by
 unfold stepT at h
 split at h
 . rename_i hg; exact .inl ⟨hg,h⟩
 . rename_i hg; exact .inr ⟨hg,h⟩
 . exact h.elim
theorem step_run{an:An}{o:Oper}(hg:guardOf ops o σ=some true)(h:actT P Shp an o σ V K):stepT P Shp ops an o σ V K:=by unfold stepT; rw[hg]; exact h
theorem step_pass{an:An}{o:Oper}(hg:guardOf ops o σ=some false)(h:K (σ.put o.dst (.val undef)) V):stepT P Shp ops an o σ V K:=by unfold stepT; rw[hg]; exact h
theorem act_build{an:An}{o:Oper}(hcl:clsA an=1):actT P Shp an o σ V K=buildT P o σ V K:=by
 unfold actT
 split
 all_goals first
  | rfl
  | (rename_i h; simp[clsA,h]at hcl; done)
  | (simp[clsA]at hcl; split at hcl<;>simp_all)
theorem act_call{an:An}{o:Oper}(hcl:clsA an=2):actT P Shp an o σ V K=callT P Shp an.sp o σ V K:=by
 unfold actT
 split
 all_goals first
  | rfl
  | (rename_i h; simp[clsA,h]at hcl; done)
  | (simp[clsA]at hcl; split at hcl<;>simp_all)
theorem act_app{an:An}{o:Oper}(hcl:clsA an=5):actT P Shp an o σ V K=appT P an.rt o σ V K:=by
 unfold actT
 split
 all_goals first
  | rfl
  | (rename_i h; simp[clsA,h]at hcl; done)
  | (simp[clsA]at hcl; split at hcl<;>simp_all)
theorem act_known{an:An}{o:Oper}(hcl:clsA an=4):(∀σ V K,actT P Shp an o σ V K=appFullT P o σ V K)\/(∀σ V K,actT P Shp an o σ V K=makeT P o σ V K):=by
 have h:an.fl=15\/an.fl=17:=by
  simp[clsA]at hcl; split at hcl<;>simp_all
 rcases h with h|h
 . exact .inl λσ V K=>by unfold actT; rw[h]; rfl
 . exact .inr λσ V K=>by unfold actT; rw[h]; rfl
theorem appQ_operands{o:Oper}{x y:Operand}{e:TypeId}{sz bs:Nat}(h:appQ P o=some (x,y,e,sz,bs)):x∈o.op.operands/\y∈o.op.operands:=by
 obtain⟨t,i,z,hop,_⟩:=appQ_spec h
 simp[hop,Op.operands,Call.operands]
theorem appFull_congr{o:Oper}{σ σ':St}{K K':St->View->Prop}(hev:∀x∈o.op.operands,σ.ev x=σ'.ev x)
 (hk:∀s V',V.le V'->V'.Fin->K (σ.put o.dst s) V'->K' (σ'.put o.dst s) V') (h:appFullT P o σ V K):appFullT P o σ' V K':=by
 revert h; unfold appFullT
 split
 . rename_i x y e sz bs hq
   obtain⟨h1,h2⟩:=appQ_operands hq
   rw[hev x h1,hev y h2]
   split
   . rintro⟨e0,xs,vs,a1,a2,a3,a4,a5,a6,h⟩
     exact⟨e0,xs,vs,a1,a2,a3,a4,a5,a6,λra rc V' b1 b2 b3 b4 b5=>hk _ V' b1 b2 (h ra rc V' b1 b2 b3 b4 b5)⟩
   . exact id
 . exact id
theorem make_congr{o:Oper}{σ σ':St}{K K':St->View->Prop}(hev:∀x∈o.op.operands,σ.ev x=σ'.ev x)
 (hk:∀s V',V.le V'->V'.Fin->K (σ.put o.dst s) V'->K' (σ'.put o.dst s) V') (h:makeT P o σ V K):makeT P o σ' V K':=by
 revert h; unfold makeT
 split
 . rename_i t n c hop
   rw[hev n (by simp[hop,Op.operands]),hev c (by simp[hop,Op.operands])]
   split
   . split
     . rintro⟨h1,h⟩
       refine⟨h1,?_⟩
       revert h
       split
       . intro h b V' b1 b2 b3; exact hk _ V' b1 b2 (h b V' b1 b2 b3)
       . exact id
     . exact id
   . exact id
 . exact id
theorem known_congr{an:An}(hcl:clsA an=4){o:Oper}{σ σ':St}{K K':St->View->Prop}(hev:∀x∈o.op.operands,σ.ev x=σ'.ev x)
 (hk:∀s V',V.le V'->V'.Fin->K (σ.put o.dst s) V'->K' (σ'.put o.dst s) V') (h:actT P Shp an o σ V K):actT P Shp an o σ' V K':=by
 rcases act_known (P:=P) (Shp:=Shp) (o:=o) hcl with e|e
 . rw[e]at h ⊢; exact appFull_congr hev hk h
 . rw[e]at h ⊢; exact make_congr hev hk h
theorem ev_kill{σ:St}{id:Nat}(x:Operand):(σ.kill id).ev x=killS id (σ.ev x):=by
 cases x with
 | tmp t =>
   simp only[St.ev,St.kill,List.getD,List.getElem?_map]
   cases σ.tm[t]?<;>rfl
 | const v=>rfl
 | global g=>rfl
 | func f=>rfl
theorem guardOf_kill{ops:Array Oper}{o:Oper}{σ:St}{id:Nat}:guardOf ops o (σ.kill id)=guardOf ops o σ:=by
 unfold guardOf
 cases o.guard with
 | none=>rfl
 | some g =>
   obtain⟨j,want⟩:=g
   simp only[]
   cases (ops[j]?).bind (·.dst)with
   | none=>rfl
   | some t =>
     simp only[]
     have:(σ.kill id).tm.getD t .any=killS id (σ.tm.getD t .any):=ev_kill (.tmp t)
     rw[this]
     cases σ.tm.getD t .any with
     | lst i n c=>by_cases e:i=id<;>simp[killS,e]
     | les i n c=>by_cases e:i=id<;>simp[killS,e]
     | tlst i n c r=>by_cases e:i=id<;>simp[killS,e]
     | _=>rfl
theorem own_kill{σ:St}{id r:Nat}:(σ.kill id).own[r]?=(σ.own[r]?).map (killO id):=by simp[St.kill]
theorem kill_put{σ:St}{id:Nat}{d:Option Tmp}{s:SV}:(σ.put d s).kill id=(σ.kill id).put d (killS id s):=by
 cases d with
 | none=>rfl
 | some t=>simp[St.put,St.kill,List.map_set]
theorem kill_setOwn{σ:St}{id r:Nat}{ob:Option OB}:(σ.setOwn r ob).kill id=(σ.kill id).setOwn r (killO id ob):=by simp[St.setOwn,St.kill,List.map_set]
theorem EA_kill{id:Nat}{an:An}{o:Oper}{g:Option Bool}{ev:Operand->SV}{blk:Option (Option OB)}{s:SV}{ob:Option OB}(hb:blindOp o an=true)(h:EA P Shp an o g ev blk V s ob) :
 EA P Shp an o g (λx=>killS id (ev x)) (blk.map (killO id)) V (killS id s) (killO id ob):=by
 cases g with
 | none=>exact h
 | some g =>
   cases g with
   | false =>
     obtain⟨rfl,h⟩:=h
     refine⟨rfl,?_⟩
     rcases h with rfl|rfl
     . exact .inl rfl
     . exact .inr rfl
   | true =>
     simp only[EA]at h ⊢
     unfold blindOp at hb
     split at hb
     . rename_i hfl hsp hop
       unfold coreT at h ⊢
       rw[hfl]at h ⊢
       cases blk with
       | none=>simp[corePlace,hop]at h
       | some b =>
         simp only[corePlace,hop,hsp,fin,Option.map_some]at h ⊢
         split at h
         . rename_i he hq
           rw[he]
           simp only[killS,hq]
           obtain⟨rfl,rfl⟩:=h
           exact⟨rfl,rfl⟩
         . rename_i he hq
           rw[he]
           simp only[killS,hq]
           obtain⟨hpa,rfl,rfl⟩:=h
           exact⟨hpa,rfl,rfl⟩
         . exact h.elim
     . rename_i hfl hsp hop
       unfold coreT at h ⊢
       rw[hfl]at h ⊢
       cases blk with
       | none=>simp[corePlace,hop]at h
       | some b =>
         simp only[corePlace,hop,hsp,fin,Option.map_some]at h ⊢
         split at h
         . rename_i he hi
           rw[he,hi]
           simp only[killS]
           split at h
           . rename_i hE
             split at h
             . rename_i hZ
               obtain⟨h1,rfl,rfl⟩:=h
               exact⟨h1,rfl,rfl⟩
             . exact h.elim
           . exact h.elim
         . rename_i he hi
           rw[he,hi]
           simp only[killS]
           split at h
           . rename_i hE
             split at h
             . rename_i hZ
               obtain⟨h1,rfl,rfl⟩:=h
               exact⟨h1,rfl,rfl⟩
             . exact h.elim
           . exact h.elim
         . rename_i he hi
           rw[he,hi]
           simp only[killS]
           split at h
           . rename_i hE
             split at h
             . rename_i hZ
               obtain⟨h1,rfl,rfl⟩:=h
               exact⟨h1,rfl,rfl⟩
             . exact h.elim
           . exact h.elim
         . exact h.elim
     . rename_i hfl hsp hop
       unfold coreT at h ⊢
       rw[hfl]at h ⊢
       cases blk with
       | none=>simp[coreSee,hop]at h
       | some b =>
         simp only[coreSee,hop,hsp,fin,Option.map_some]at h ⊢
         split at h
         . rename_i he
           rw[he]
           simp only[killS]
           split at h
           . rename_i hA hZ
             obtain⟨x,h1,h2,h⟩:=h
             refine⟨x,h1,h2,?_⟩
             split at h
             . rename_i hv
               split at h
               . rename_i hq
                 obtain⟨rfl,rfl⟩:=h
                 exact⟨rfl,rfl⟩
               . exact h.elim
             . exact h.elim
           . rename_i hA
             obtain⟨x,h1,rfl,rfl⟩:=h
             exact⟨x,h1,rfl,rfl⟩
           . exact h.elim
         . exact h.elim
     . rename_i hfl hsp hop
       unfold coreT at h ⊢
       rw[hfl]at h ⊢
       simp only[coreMove,hop,hsp,fin]at h ⊢
       cases blk with
       | none=>exact h.elim
       | some b=>obtain⟨rfl,rfl⟩:=h; exact⟨rfl,rfl⟩
     . rename_i hfl hsp hop
       unfold coreT at h ⊢
       rw[hfl]at h ⊢
       simp only[coreMove,hop,hsp,fin]at h ⊢
       cases blk with
       | none=>exact h.elim
       | some b=>obtain⟨rfl,rfl⟩:=h; exact⟨rfl,rfl⟩
     . simp at hb
theorem swapA5(hap:ox.apart ops oy=true)(hb:blindOp oy ay=true)(hx:clsA ax=5)(hrt:ay.rt≠ax.rt)
 (h:stepT P Shp ops ay oy σ V λσ1 V1=>stepT P Shp ops ax ox σ1 V1 K):stepT P Shp ops ax ox σ V λσ1 V1=>stepT P Shp ops ay oy σ1 V1 K:=by
 have hy:clsA ay=0:=by
  unfold blindOp at hb; unfold clsA
  split at hb
  . rename_i h _ _; rw[h]; rfl
  . rename_i h _ _; rw[h]; rfl
  . rename_i h _ _; rw[h]; rfl
  . rename_i h _ _; rw[h]; rfl
  . rename_i h _ _; rw[h]; rfl
  . simp at hb
 obtain⟨hdx,hdd,hdy⟩:=Oper.apart_spec hap
 obtain⟨sy,oby,hEy,h⟩:=A_elim hy h
 have hev:∀x∈ox.op.operands,((σ.setOwn ay.rt oby).put oy.dst sy).ev x=σ.ev x:=λx hx=>by rw[ev_put (operand_looks hdy x hx),ev_setOwn]
 have hg:guardOf ops ox ((σ.setOwn ay.rt oby).put oy.dst sy)=guardOf ops ox σ:=by rw[guardOf_put hdy,guardOf_setOwn]
 rcases step_cases h with⟨g,h⟩|⟨g,h⟩
 . rw[hg]at g
   refine step_run g ?_
   rw[act_app hx]at h ⊢
   unfold appT at h ⊢
   split at h
   . rename_i x y e sz bs hq
     obtain⟨m1,m2⟩:=appQ_operands hq
     rw[hev x m1,hev y m2,put_own,own_other hrt]at h
     revert h
     split
     . split
       . rintro⟨xs,vs,a1,a2,a3,a4,a5,a6,h⟩
         refine⟨xs,vs,a1,a2,a3,a4,a5,a6,λcap' l' hok => ?_⟩
         have hk:=h cap' l' hok
         refine A_intro hy (s:=killS ax.rt sy) (ob:=killO ax.rt oby) ?_ ?_
         . rw[guardOf_put hdx,guardOf_setOwn,guardOf_kill,put_own,own_other (λe=>hrt e.symm),own_kill]
           refine EA_congr (λx hx => ?_) (EA_kill hb hEy)
           rw[ev_put (operand_looks hdx x hx),ev_setOwn,ev_kill]
         . have e1:∀(X:SV) (L:Option OB),((((σ.kill ax.rt).setOwn ax.rt L).put ox.dst X).setOwn ay.rt (killO ax.rt oby)).put oy.dst (killS ax.rt sy) =
               ((((σ.setOwn ay.rt oby).put oy.dst sy).kill ax.rt).setOwn ax.rt L).put ox.dst X:=by
             intro X L
             rw[kill_put,kill_setOwn,setOwn_put (σ:=(σ.kill ax.rt).setOwn ax.rt L),setOwn_put (σ:=(σ.kill ax.rt).setOwn ay.rt (killO ax.rt oby)),St.put_comm hdd,setOwn_comm hrt]
           rw[e1]; exact hk
       . exact λh=>h.elim
     . split
       . rintro⟨xs,vs,a1,a2,a3,a4,a5,a6,h⟩
         refine⟨xs,vs,a1,a2,a3,a4,a5,a6,λcap' l' hok => ?_⟩
         have hk:=h cap' l' hok
         refine A_intro hy (s:=killS ax.rt sy) (ob:=killO ax.rt oby) ?_ ?_
         . rw[guardOf_put hdx,guardOf_setOwn,guardOf_kill,put_own,own_other (λe=>hrt e.symm),own_kill]
           refine EA_congr (λx hx => ?_) (EA_kill hb hEy)
           rw[ev_put (operand_looks hdx x hx),ev_setOwn,ev_kill]
         . have e1:∀(X:SV) (L:Option OB),((((σ.kill ax.rt).setOwn ax.rt L).put ox.dst X).setOwn ay.rt (killO ax.rt oby)).put oy.dst (killS ax.rt sy) =
               ((((σ.setOwn ay.rt oby).put oy.dst sy).kill ax.rt).setOwn ax.rt L).put ox.dst X:=by
             intro X L
             rw[kill_put,kill_setOwn,setOwn_put (σ:=(σ.kill ax.rt).setOwn ax.rt L),setOwn_put (σ:=(σ.kill ax.rt).setOwn ay.rt (killO ax.rt oby)),St.put_comm hdd,setOwn_comm hrt]
           rw[e1]; exact hk
       . exact λh=>h.elim
     . exact λh=>h.elim
   . exact h.elim
 . rw[hg]at g
   refine step_pass g (A_intro hy (s:=sy) (ob:=oby) ?_ ?_)
   . rw[guardOf_put hdx,put_own]
     exact EA_congr (λx hx=>by rw[ev_put (operand_looks hdx x hx)]) hEy
   . rw[setOwn_put,St.put_comm hdd]; exact h
theorem act_region{an:An}(hcl:clsA an=6):(∀o σ V K,actT P Shp an o σ V K=callRT P Shp an.sp an.rt o σ V K)\/(∀o σ V K,actT P Shp an o σ V K=appRT P an.rt o σ V K)\/(∀o σ V K,actT P Shp an o σ V K=makeRT P an.rt o σ V K):=by
 have h:an.fl=24\/an.fl=25\/an.fl=26:=by
  simp[clsA]at hcl; split at hcl<;>simp_all
 rcases h with h|h|h
 . exact .inl λo σ V K=>by unfold actT; rw[h]; rfl
 . exact .inr (.inl λo σ V K=>by unfold actT; rw[h]; rfl)
 . exact .inr (.inr λo σ V K=>by unfold actT; rw[h]; rfl)
theorem callR_congr{sp:Bool}{rt:Nat}{o:Oper}{σ σ':St}{K K':St->View->Prop}(hev:∀x∈o.op.operands,σ.ev x=σ'.ev x)(hown:σ.own[rt]?=σ'.own[rt]?)
 (hk:∀L s V',V.le V'->V'.Fin->K ((σ.setOwn rt L).put o.dst s) V'->K' ((σ'.setOwn rt L).put o.dst s) V') (h:callRT P Shp sp rt o σ V K):callRT P Shp sp rt o σ' V K':=by
 revert h; unfold callRT
 rw[callQ_congr hev,hown]
 split
 . intro h; exact h.mono λv m' V' hle hfin r=>resT_mono (λs=>fin_mono λs=>hk _ s V' hle hfin) r
 . exact id
theorem appR_congr{rt:Nat}{o:Oper}{σ σ':St}{K K':St->View->Prop}(hev:∀x∈o.op.operands,σ.ev x=σ'.ev x)(hown:σ.own[rt]?=σ'.own[rt]?)
 (hk:∀L s,K ((σ.setOwn rt L).put o.dst s) V->K' ((σ'.setOwn rt L).put o.dst s) V) (h:appRT P rt o σ V K):appRT P rt o σ' V K':=by
 revert h; unfold appRT
 rw[hown]
 split
 . rename_i x y e sz bs ty m hq hm
   obtain⟨h1,h2⟩:=appQ_operands hq
   rw[hev x h1,hev y h2]
   split
   . rintro⟨xs,vs,a1,a2,a3,a4,a5,a6,a7,a8,h3,h4⟩
     exact⟨xs,vs,a1,a2,a3,a4,a5,a6,a7,a8,h3,λra rc m' g=>hk _ _ (h4 ra rc m' g)⟩
   . exact id
 . exact id
theorem makeR_congr{rt:Nat}{o:Oper}{σ σ':St}{K K':St->View->Prop}(hev:∀x∈o.op.operands,σ.ev x=σ'.ev x)(hown:σ.own[rt]?=σ'.own[rt]?)
 (hk:∀L s,K ((σ.setOwn rt L).put o.dst s) V->K' ((σ'.setOwn rt L).put o.dst s) V) (h:makeRT P rt o σ V K):makeRT P rt o σ' V K':=by
 revert h; unfold makeRT
 rw[hown]
 split
 . rename_i t n c hop
   rw[hev n (by simp[hop,Op.operands]),hev c (by simp[hop,Op.operands])]
   split
   . split
     . split
       . rintro⟨h1,h⟩
         refine⟨h1,?_⟩
         revert h
         split
         . intro h b b1 b2; exact hk _ _ (h b b1 b2)
         . exact id
       . exact id
     . exact id
   . exact id
 . exact id
theorem swapA6(hap:ox.apart ops oy=true)(hy:clsA ay=0)(hx:clsA ax=6)(hrt:ay.rt≠ax.rt)
 (h:stepT P Shp ops ay oy σ V λσ1 V1=>stepT P Shp ops ax ox σ1 V1 K):stepT P Shp ops ax ox σ V λσ1 V1=>stepT P Shp ops ay oy σ1 V1 K:=by
 obtain⟨hdx,hdd,hdy⟩:=Oper.apart_spec hap
 obtain⟨sy,oby,hEy,h⟩:=A_elim hy h
 have hfin:∀L s V',V.le V'->K ((((σ.setOwn ay.rt oby).put oy.dst sy).setOwn ax.rt L).put ox.dst s) V'->stepT P Shp ops ay oy ((σ.setOwn ax.rt L).put ox.dst s) V' K:=by
  intro L s V' hle hk
  refine A_intro hy (s:=sy) (ob:=oby) ?_ ?_
  . rw[guardOf_put hdx,guardOf_setOwn,put_own,own_other (λe=>hrt e.symm)]
    exact EA_view hle (EA_congr (λx hx=>by rw[ev_put (operand_looks hdx x hx),ev_setOwn]) hEy)
  . have e1:(((σ.setOwn ax.rt L).put ox.dst s).setOwn ay.rt oby).put oy.dst sy=(((σ.setOwn ay.rt oby).put oy.dst sy).setOwn ax.rt L).put ox.dst s:=by
      rw[setOwn_put (σ:=σ.setOwn ax.rt L),setOwn_put (σ:=σ.setOwn ay.rt oby),St.put_comm hdd,setOwn_comm hrt]
    rw[e1]; exact hk
 have hev:∀x∈ox.op.operands,((σ.setOwn ay.rt oby).put oy.dst sy).ev x=σ.ev x:=λx hx=>by rw[ev_put (operand_looks hdy x hx),ev_setOwn]
 have hown:((σ.setOwn ay.rt oby).put oy.dst sy).own[ax.rt]?=σ.own[ax.rt]?:=by rw[put_own,own_other hrt]
 have hg:guardOf ops ox ((σ.setOwn ay.rt oby).put oy.dst sy)=guardOf ops ox σ:=by rw[guardOf_put hdy,guardOf_setOwn]
 rcases step_cases h with⟨g,h⟩|⟨g,h⟩
 . rw[hg]at g
   refine step_run g ?_
   rcases act_region (P:=P) (Shp:=Shp) hx with hx|hx|hx
   . rw[hx]at h ⊢; exact callR_congr hev hown (λL s V' hle _=>hfin L s V' hle) h
   . rw[hx]at h ⊢; exact appR_congr hev hown (λL s=>hfin L s V (View.le_refl V)) h
   . rw[hx]at h ⊢; exact makeR_congr hev hown (λL s=>hfin L s V (View.le_refl V)) h
 . rw[hg]at g
   refine step_pass g (A_intro hy (s:=sy) (ob:=oby) ?_ ?_)
   . rw[guardOf_put hdx,put_own]
     exact EA_congr (λx hx=>by rw[ev_put (operand_looks hdx x hx)]) hEy
   . rw[setOwn_put,St.put_comm hdd]; exact h
theorem swapA_(hap:ox.apart ops oy=true)(hy:clsA ay=0)(hx:clsA ax=1\/clsA ax=2\/clsA ax=4)
 (h:stepT P Shp ops ay oy σ V λσ1 V1=>stepT P Shp ops ax ox σ1 V1 K):stepT P Shp ops ax ox σ V λσ1 V1=>stepT P Shp ops ay oy σ1 V1 K:=by
 obtain⟨hdx,hdd,hdy⟩:=Oper.apart_spec hap
 obtain⟨sy,oby,hEy,h⟩:=A_elim hy h
 have hfin:∀s V',V.le V'->K (((σ.setOwn ay.rt oby).put oy.dst sy).put ox.dst s) V'->stepT P Shp ops ay oy (σ.put ox.dst s) V' K:=by
  intro s V' hle hk
  refine A_intro hy (s:=sy) (ob:=oby) ?_ ?_
  . rw[guardOf_put hdx,put_own]
    exact EA_view hle (EA_congr (λx hx=>by rw[ev_put (operand_looks hdx x hx)]) hEy)
  . rw[setOwn_put,St.put_comm hdd]; exact hk
 have hev:∀x∈ox.op.operands,((σ.setOwn ay.rt oby).put oy.dst sy).ev x=σ.ev x:=λx hx=>by rw[ev_put (operand_looks hdy x hx),ev_setOwn]
 have hg:guardOf ops ox ((σ.setOwn ay.rt oby).put oy.dst sy)=guardOf ops ox σ:=by rw[guardOf_put hdy,guardOf_setOwn]
 rcases step_cases h with⟨g,h⟩|⟨g,h⟩
 . rw[hg]at g
   refine step_run g ?_
   rcases hx with hx|hx|hx
   . rw[act_build hx]at h ⊢; exact build_congr hev (λs V' hle _=>hfin s V' hle) h
   . rw[act_call hx]at h ⊢; exact call_congr hev (λs V' hle _=>hfin s V' hle) h
   . exact known_congr hx hev (λs V' hle _=>hfin s V' hle) h
 . rw[hg]at g
   exact step_pass g (hfin _ V (View.le_refl V) h)
theorem step_B{an:An}{o:Oper}(hcl:clsA an=1){σ':St}(hg:guardOf ops o σ'=guardOf ops o σ)(hev:∀x∈o.op.operands,σ'.ev x=σ.ev x)(h:stepT P Shp ops an o σ' V K) :
 (guardOf ops o σ=some true/\∃cells n,buildC P o σ.ev=some (cells,n)/\∀(b:Nat) (V':View),V.le V'->V'.Fin->V' b=some cells->K (σ'.put o.dst (.val (.slice (some ⟨b,0,none⟩) n n))) V') \/
 (guardOf ops o σ=some false/\K (σ'.put o.dst (.val undef)) V):=by
 rcases step_cases h with⟨g,h⟩|⟨g,h⟩
 . rw[hg]at g
   rw[act_build hcl]at h
   unfold buildT at h
   rw[buildC_congr hev]at h
   split at h
   . rename_i cells n hC; exact .inl ⟨g,cells,n,hC,h⟩
   . exact h.elim
 . rw[hg]at g
   exact .inr ⟨g,h⟩
theorem build_intro{an:An}{o:Oper}(hcl:clsA an=1)(hg:guardOf ops o σ=some true){cells:Array Value}{n:Nat}(hC:buildC P o σ.ev=some (cells,n))
 (h:∀(b:Nat) (V':View),V.le V'->V'.Fin->V' b=some cells->K (σ.put o.dst (.val (.slice (some ⟨b,0,none⟩) n n))) V'):stepT P Shp ops an o σ V K:=by
 refine step_run hg ?_
 rw[act_build hcl]
 unfold buildT
 rw[hC]
 exact h
theorem View.Fin.more{V:View}(h:V.Fin)(cells:Array Value):∃b V',View.le V V'/\V'.Fin/\V' b=some cells:=by
 obtain⟨n,hn⟩:=h
 refine⟨n,λi=>if i=n then some cells else V i,View.set_le (hn n (Nat.le_refl n)),⟨n+1,λb hb => ?_⟩,by simp⟩
 have:b≠n:=by omega
 simp[this,hn b (by omega)]
theorem swap_B(hV:V.Fin)(hap:ox.apart ops oy=true)(hy:clsA ay=1\/clsA ay=2)(hx:clsA ax=1)
 (h:stepT P Shp ops ay oy σ V λσ1 V1=>stepT P Shp ops ax ox σ1 V1 K):stepT P Shp ops ax ox σ V λσ1 V1=>stepT P Shp ops ay oy σ1 V1 K:=by
 obtain⟨hdx,hdd,hdy⟩:=Oper.apart_spec hap
 have evx:∀s,∀x∈ox.op.operands,(σ.put oy.dst s).ev x=σ.ev x:=λs x hx=>ev_put (operand_looks hdy x hx)
 have evy:∀s,∀x∈oy.op.operands,(σ.put ox.dst s).ev x=σ.ev x:=λs x hx=>ev_put (operand_looks hdx x hx)
 have gx:∀s,guardOf ops ox (σ.put oy.dst s)=guardOf ops ox σ:=λs=>guardOf_put hdy
 have gy:∀s,guardOf ops oy (σ.put ox.dst s)=guardOf ops oy σ:=λs=>guardOf_put hdx
 rcases step_cases h with⟨g,h⟩|⟨g,h⟩
 . rcases hy with hy|hy
   . rw[act_build hy]at h
     unfold buildT at h
     split at h
     . rename_i cy ny hCy
       obtain⟨b0,V0,hle0,hfin0,hb0⟩:=hV.more cy
       rcases step_B hx (gx _) (evx _) (h b0 V0 hle0 hfin0 hb0)with⟨gX,cx,nx,hCx,_⟩|⟨gX,_⟩
       . refine build_intro hx gX hCx λb V' hle hfin hb => ?_
         refine build_intro hy (by rw[gy]; exact g) (by rw[buildC_congr (evy _)]; exact hCy) λb2 V2 hle2 hfin2 hb2 => ?_
         rcases step_B hx (gx _) (evx _) (h b2 V2 (View.le_trans hle hle2) hfin2 hb2)with⟨_,cx',nx',hCx',hk⟩|⟨gX',_⟩
         . rw[hCx]at hCx'; cases hCx'
           have:=hk b V2 (View.le_refl _) hfin2 (hle2 _ _ hb)
           rw[St.put_comm hdd]; exact this
         . rw[gX]at gX'; cases gX'
       . refine step_pass gX ?_
         refine build_intro hy (by rw[gy]; exact g) (by rw[buildC_congr (evy _)]; exact hCy) λb2 V2 hle2 hfin2 hb2 => ?_
         rcases step_B hx (gx _) (evx _) (h b2 V2 hle2 hfin2 hb2)with⟨gX',_⟩|⟨_,hk⟩
         . rw[gX]at gX'; cases gX'
         . rw[St.put_comm hdd]; exact hk
     . exact h.elim
   . rw[act_call hy]at h
     unfold callT at h
     split at h
     . rename_i f vs hq
       have hq':∀s,callQ P oy (σ.put ox.dst s).ev=some (f,vs):=λs=>by rw[callQ_congr (evy s)]; exact hq
       obtain⟨v0,V0,hle0,hfin0,hr0⟩:=h.inst hV
       obtain⟨s0,hk0,_⟩:=fin_ex (resT_spec hr0)
       have hcall:∀s V',V.le V'->V'.Fin->(∀s' V1 V2,V.le V1->V1.le V2->V'.le V2->V2.Fin->stepT P Shp ops ax ox (σ.put oy.dst s') V1 K->K ((σ.put ox.dst s).put oy.dst s') V2) ->
        stepT P Shp ops ay oy (σ.put ox.dst s) V' K:=by
        intro s V' hle hfin hK
        refine step_run (by rw[gy]; exact g) ?_
        rw[act_call hy]
        unfold callT
        rw[hq' s]
        refine(CallV.wider hle h).mono' λv V2 hle2 hfin2 ⟨V1,hl12,hl1,hr⟩ => ?_
        exact resT_mono (λs hs=>fin_mono (λs' hs'=>hK s' V1 V2 hl1 hl12 hle2 hfin2 hs') hs) hr
       rcases step_B hx (gx _) (evx _) hk0 with⟨gX,cx,nx,hCx,_⟩|⟨gX,_⟩
       . refine build_intro hx gX hCx λb V' hle hfin hb=>hcall _ V' hle hfin λs' V1 V2 hl1 hl12 hl2 hfin2 hs => ?_
         rcases step_B hx (gx _) (evx _) hs with⟨_,cx',nx',hCx',hk⟩|⟨gX',_⟩
         . rw[hCx]at hCx'; cases hCx'
           have:=hk b V2 hl12 hfin2 (hl2 _ _ hb)
           rw[St.put_comm hdd]; exact this
         . rw[gX]at gX'; cases gX'
       . refine step_pass gX (step_run (by rw[gy]; exact g) ?_)
         rw[act_call hy]
         unfold callT
         rw[hq' (.val undef)]
         refine h.mono' λv V1 hl1 hf1 hr=>resT_mono (λs hs=>fin_mono (λs' hs' => ?_) hs) hr
         rcases step_B hx (gx _) (evx _) hs' with⟨gX',_⟩|⟨_,hk⟩
         . rw[gX]at gX'; cases gX'
         . rw[St.put_comm hdd]; exact hk
     . exact h.elim
 . rcases step_B hx (gx _) (evx _) h with⟨gX,cx,nx,hCx,hk⟩|⟨gX,hk⟩
   . refine build_intro hx gX hCx λb V' hle hfin hb=>step_pass (by rw[gy]; exact g) ?_
     rw[St.put_comm hdd]; exact hk b V' hle hfin hb
   . refine step_pass gX (step_pass (by rw[gy]; exact g) ?_)
     rw[St.put_comm hdd]; exact hk
end swap
