/- Part. -/
import Derived.Test.YtblaagclfalaaaaGreatVcE
namespace Go.Vc
open Go Go.RowKit
def wrA(an:An):Bool:=an.fl==3||an.fl==6||an.fl==16||an.fl==23
def clsA(an:An):Nat:=match an.fl with|10=>2|11=>1|13=>5|14=>3|15=>4|17=>4|18=>3|19=>3|21=>3|24=>6|25=>6|26=>6|_=>0
theorem u0t{sp:Bool}{s:SV}{k:SV->Prop}(h:fin sp s k):∃s',k s'/\fin sp s (λt=>t=s'):=by
 revert h; unfold fin
 split
 . intro h; exact⟨_,h,rfl⟩
 . split
   . intro h; exact⟨_,h,rfl⟩
   . rename_i b
     intro h
     cases b with
     | true=>exact⟨_,h.1 rfl,⟨λ_=>rfl,by simp⟩⟩
     | false=>exact⟨_,h.2 rfl,⟨by simp,λ_=>rfl⟩⟩
   . intro h; exact h.elim
theorem u0a{sp:Bool}{s:SV}{k k':SV->Prop}(hk:∀s,k s->k' s)(h:fin sp s k):fin sp s k':=by
 revert h; unfold fin
 split
 . exact hk _
 . split
   . exact hk _
   . intro h; exact⟨λe=>hk _ (h.1 e),λe=>hk _ (h.2 e)⟩
   . exact id
def EA(P:Program)(Shp:N03)(an:An)(o:Oper)(g:Option Bool)(ev:Operand->SV)(blk:Option (Option OB))(V:View)(s:SV)(ob:Option OB):Prop :=
 match g with
 | some true=>N08 P Shp V an o ev blk λs0 ob0=>fin an.sp s0 (λs1=>s1=s)/\ob0=ob
 | some false=>s = .val undef/\(blk=some ob\/blk=none)
 | none=>False
theorem G09{σ:St}{rt:Nat}{b:Option OB}(h:σ.own[rt]?=none):σ.setOwn rt b=σ:=by
 unfold St.setOwn
 congr 1
 have:σ.own.length<=rt:=by
  rcases Nat.lt_or_ge rt σ.own.length with h'|h'
  . rw[List.getElem?_eq_getElem h']at h; simp at h
  . exact h'
 exact List.set_eq_of_length_le this
theorem l0n{P:Program}{Shp an o σ V}{K:St->View->Prop}(hcl:clsA an=0) :
 actT P Shp an o σ V K=N08 P Shp V an o σ.ev σ.own[an.rt]? λs ob=>fin an.sp s λs=>K ((σ.setOwn an.rt ob).put o.dst s) V:=by
 unfold actT
 split
 all_goals first
  | rfl
  | (rename_i h; simp[clsA,h]at hcl; done)
theorem C0k{P:Program}{Shp ops an o σ V}{K:St->View->Prop}(hcl:clsA an=0)(h:b05 P Shp ops an o σ V K) :
 ∃s ob,EA P Shp an o (L02 ops o σ) σ.ev σ.own[an.rt]? V s ob/\K ((σ.setOwn an.rt ob).put o.dst s) V:=by
 unfold b05 at h
 split at h
 . rename_i hg
   rw[l0n hcl]at h
   obtain⟨s,ob,hk,hc⟩:=k0n h
   obtain⟨s',hk',hf⟩:=u0t hk
   refine⟨s',ob,?_,hk'⟩
   rw[hg]
   exact Y0e (λs0 ob0 ⟨e1,e2⟩=>⟨by rw[e1]; exact hf,e2⟩) hc
 . rename_i hg
   cases hb:σ.own[an.rt]? with
   | none=>exact⟨.val undef,none,by rw[hg]; exact⟨rfl,.inr rfl⟩,by rw[G09 hb]; exact h⟩
   | some b=>exact⟨.val undef,b,by rw[hg]; exact⟨rfl,.inl rfl⟩,by rw[j00 hb]; exact h⟩
 . exact h.elim
theorem o0c{P:Program}{Shp ops an o σ V s ob}{K:St->View->Prop}(hcl:clsA an=0)(h:EA P Shp an o (L02 ops o σ) σ.ev σ.own[an.rt]? V s ob)
 (hk:K ((σ.setOwn an.rt ob).put o.dst s) V):b05 P Shp ops an o σ V K:=by
 unfold b05
 cases hg:L02 ops o σ with
 | none=>rw[hg]at h; exact h.elim
 | some g =>
   rw[hg]at h
   cases g with
   | true =>
     simp only[]
     rw[l0n hcl]
     refine Y0e (λs0 ob0 ⟨h1,h2⟩ => ?_) h
     subst h2
     exact u0a (λs1 e=>by rw[e]; exact hk) h1
   | false =>
     simp only[]
     obtain⟨rfl,hb⟩:=h
     rcases hb with hb|hb
     . rw[j00 hb]at hk; exact hk
     . rw[G09 hb]at hk; exact hk
theorem e0q{P:Program}{Shp an o g ev blk V V' s ob}(hV:View.le V V')(h:EA P Shp an o g ev blk V s ob):EA P Shp an o g ev blk V' s ob:=by
 cases g with
 | none=>exact h
 | some g=>cases g with
   | true=>exact k0o hV h
   | false=>exact h
theorem w0a{P:Program}{Shp an o g ev ev' blk V s ob}(hev:∀x∈o.op.operands,ev x=ev' x)(h:EA P Shp an o g ev blk V s ob):EA P Shp an o g ev' blk V s ob:=by
 cases g with
 | none=>exact h
 | some g=>cases g with
   | true=>exact c0m hev h
   | false=>exact h
theorem o0j{P:Program}{Shp an o g ev blk V s ob}(hw:wrA an=false)(h:EA P Shp an o g ev blk V s ob):blk=some ob\/blk=none:=by
 cases g with
 | none=>exact h.elim
 | some g=>cases g with
   | false=>exact h.2
   | true =>
     cases blk with
     | none=>exact .inr rfl
     | some b =>
       have h3:an.fl≠3:=by intro e; simp[wrA,e]at hw
       have h6:an.fl≠6:=by intro e; simp[wrA,e]at hw
       have h16:an.fl≠16:=by intro e; simp[wrA,e]at hw
       have h23:an.fl≠23:=by intro e; simp[wrA,e]at hw
       obtain⟨s0,ob0,⟨rfl,_,rfl⟩,_⟩:=k0n (l0o h3 h6 h16 h23 h)
       exact .inl rfl
theorem H09{σ:St}{r r':Nat}{ob:Option OB}(h:r≠r'):(σ.setOwn r ob).own[r']?=σ.own[r']?:=by
 simp[St.setOwn,List.getElem?_set_ne h]
theorem I0a{σ:St}{d:Option Tmp}{s:SV}:(σ.put d s).own=σ.own:=by cases d<;>rfl
theorem Z0a{σ:St}{d:Option Tmp}{s:SV}{x:Operand}(h:∀t,d=some t->x ≠ .tmp t):(σ.put d s).ev x=σ.ev x:=by
 cases d with
 | none=>rfl
 | some t =>
   cases x with
   | tmp u =>
     have hne:t≠u:=λe=>h t rfl (e▸rfl)
     simp[St.ev,St.put,List.getD,List.getElem?_set_ne hne]
   | const v=>rfl
   | global g=>rfl
   | func f=>rfl
theorem m08{σ:St}{r:Nat}{ob:Option OB}{x:Operand}:(σ.setOwn r ob).ev x=σ.ev x:=by cases x<;>rfl
theorem X03{ops:Array Oper}{o:Oper}{σ:St}{d:Option Tmp}{s:SV}(h:∀t,d=some t->t∉o.looksAt ops):L02 ops o (σ.put d s)=L02 ops o σ:=by
 unfold L02
 cases hg:o.guard with
 | none=>rfl
 | some g =>
   obtain⟨j,want⟩:=g
   simp only[]
   cases ht:(ops[j]?).bind (·.dst)with
   | none=>rfl
   | some t =>
     simp only[]
     cases d with
     | none=>rfl
     | some u =>
       have hne:u≠t:=by
        rintro rfl
        refine h u rfl ?_
        simp[Oper.looksAt,hg,ht]
       have:(σ.put (some u) s).tm.getD t .any=σ.tm.getD t .any:=by simp[St.put,List.getD,List.getElem?_set_ne hne]
       rw[this]
theorem Y04{ops:Array Oper}{o:Oper}{σ:St}{r:Nat}{ob:Option OB}:L02 ops o (σ.setOwn r ob)=L02 ops o σ:=rfl
theorem M02{ops:Array Oper}{o:Oper}{d:Option Tmp}(h:∀t,d=some t->t∉o.looksAt ops):∀x∈o.op.operands,∀t,d=some t->x ≠ .tmp t:=by
 intro x hx t ht e
 refine h t ht ?_
 subst e
 simp only[Oper.looksAt,List.mem_append,List.mem_filterMap]
 exact .inl ⟨.tmp t,by simpa using hx,rfl⟩
theorem e04{σ:St}{d d':Option Tmp}{s s':SV}(h:∀t,d=some t->d'≠some t):(σ.put d s).put d' s'=(σ.put d' s').put d s:=by
 cases d with
 | none=>rfl
 | some t=>cases d' with
   | none=>rfl
   | some t' =>
     have hne:t≠t':=λe=>h t rfl (by rw[e])
     simp only[St.put]
     congr 1
     exact List.set_comm _ _ hne
theorem T05{σ:St}{r:Nat}{ob:Option OB}{d:Option Tmp}{s:SV}:(σ.put d s).setOwn r ob=(σ.setOwn r ob).put d s:=by cases d<;>rfl
theorem A0b{σ:St}{r r':Nat}{ob ob':Option OB}(h:r≠r'):(σ.setOwn r ob).setOwn r' ob'=(σ.setOwn r' ob').setOwn r ob:=by
 simp only[St.setOwn]
 congr 1
 exact List.set_comm _ _ h
def D0g(o:Oper)(an:An):Bool :=
 match an.fl,an.sp,o.op with
 | 7,false,.fieldAddr _ _ _=>true
 | 7,false,.indexAddr _ _ _=>true
 | 5,false,.load _ _=>true
 | 2,false,.move _=>true
 | 2,false,.assign _=>true
 | _,_,_=>false
def D0k(ops:Array Oper)(y x:Oper×An):Bool :=
 Oper.apart ops x.1 y.1 &&
 match clsA y.2,clsA x.2 with
 | 0,0 => !(Nat.beq y.2.rt x.2.rt)||(!wrA y.2 && !wrA x.2)
 | 0,1=>true
 | 1,1=>true
 | 2,1=>true
 | 0,2=>true
 | 0,4=>true
 | 0,5=>D0g y.1 y.2 && !(Nat.beq y.2.rt x.2.rt)
 | 0,6 => !(Nat.beq y.2.rt x.2.rt)
 | _,_=>false
section swap
variable {P:Program} {Shp:N03} {ops:Array Oper} {oy ox:Oper} {ay ax:An} {σ:St} {V:View} {K:St->View->Prop}
theorem Z0u(hap:ox.apart ops oy=true)(hy:clsA ay=0)(hx:clsA ax=0)(hrt:ay.rt≠ax.rt\/(wrA ay=false/\wrA ax=false))
 (h:b05 P Shp ops ay oy σ V λσ1 V1=>b05 P Shp ops ax ox σ1 V1 K):b05 P Shp ops ax ox σ V λσ1 V1=>b05 P Shp ops ay oy σ1 V1 K:=by
 obtain⟨hdx,hdd,hdy⟩:=Oper.apart_spec hap
 obtain⟨sy,oby,hEy,h⟩:=C0k hy h
 obtain⟨sx,obx,hEx,h⟩:=C0k hx h
 rw[X03 hdy,Y04,I0a]at hEx
 have hEx:EA P Shp ax ox (L02 ops ox σ) σ.ev (σ.setOwn ay.rt oby).own[ax.rt]? V sx obx :=
  w0a (λx hx=>by rw[Z0a (M02 hdy x hx),m08]) hEx
 have hown:(σ.setOwn ay.rt oby).own[ax.rt]?=σ.own[ax.rt]?:=by
  rcases hrt with h1|⟨h1,h2⟩
  . exact H09 h1
  . rcases o0j h1 hEy with e|e
    . rw[j00 e]
    . rw[G09 e]
 rw[hown]at hEx
 refine o0c hx hEx (o0c hy (s:=sy) (ob:=oby) ?_ ?_)
 . rw[X03 hdx,Y04,I0a]
   have hown':(σ.setOwn ax.rt obx).own[ay.rt]?=σ.own[ay.rt]?:=by
    rcases hrt with h1|⟨h1,h2⟩
    . exact H09 (λe=>h1 e.symm)
    . rcases o0j h2 hEx with e|e
      . rw[j00 e]
      . rw[G09 e]
   rw[hown']
   exact w0a (λx hx=>by rw[Z0a (M02 hdx x hx),m08]) hEy
 . have e:(((σ.setOwn ax.rt obx).put ox.dst sx).setOwn ay.rt oby).put oy.dst sy=(((σ.setOwn ay.rt oby).put oy.dst sy).setOwn ax.rt obx).put ox.dst sx:=by
     rw[T05,T05,e04 hdd]
     congr 2
     rcases hrt with h1|⟨h1,h2⟩
     . exact A0b (λe=>h1 e.symm)
     . have ey:=o0j h1 hEy
       have ex:=o0j h2 hEx
       have:∀ {r:Nat} {b:Option OB} {τ:St},(τ.own[r]?=some b\/τ.own[r]?=none)->τ.setOwn r b=τ:=by
        intro r b τ hh; rcases hh with hh|hh
        . exact j00 hh
        . exact G09 hh
       rw[this ex,this ey,this ex]
   rw[e]; exact h
theorem E0g{o:Oper}{σ σ':St}{K K':St->View->Prop}(hev:∀x∈o.op.operands,σ.ev x=σ'.ev x)
 (hk:∀s V',V.le V'->V'.Fin->K (σ.put o.dst s) V'->K' (σ'.put o.dst s) V') (h:z0d P o σ V K):z0d P o σ' V K':=by
 revert h; unfold z0d
 rw[l08 hev]
 split
 . intro h b V' hle hfin hb; exact hk _ _ hle hfin (h b V' hle hfin hb)
 . exact id
theorem a0b{ts:List TypeId}{v:Value}{k k':SV->Prop}(hk:∀s,k s->k' s)(h:resT Shp ts v k):resT Shp ts v k':=by
 revert h; unfold resT
 split
 . rintro⟨h1,h2⟩; exact⟨h1,hk _ h2⟩
 . rintro⟨x,h1,h2⟩; exact⟨x,h1,hk _ h2⟩
 . rintro⟨x,y,h1,h2⟩; exact⟨x,y,h1,hk _ h2⟩
 . rintro⟨x,y,z,h1,h2⟩; exact⟨x,y,z,h1,hk _ h2⟩
 . rintro⟨x,y,z,q,h1,h2⟩; exact⟨x,y,z,q,h1,hk _ h2⟩
 . exact id
theorem I0d{o:Oper}{ev ev':Operand->SV}(hev:∀x∈o.op.operands,ev x=ev' x):l0j P o ev=l0j P o ev':=by
 unfold l0j
 split
 . rename_i c hop
   split
   . rename_i fo hcal
     rw[hev fo (by simp[hop,Op.operands,Call.operands,hcal])]
     rw[i09 (ev:=ev) (ev':=ev') (l:=c.args.toList) (λx hx=>hev x (by simp at hx; simp[hop,Op.operands,Call.operands,hx]))]
   . rename_i r name hcal
     rw[hev r (by simp[hop,Op.operands,Call.operands,hcal])]
     rw[i09 (ev:=ev) (ev':=ev') (l:=c.args.toList) (λx hx=>hev x (by simp at hx; simp[hop,Op.operands,Call.operands,hx]))]
   . rfl
 . rfl
theorem p0i{sp:Bool}{o:Oper}{σ σ':St}{K K':St->View->Prop}(hev:∀x∈o.op.operands,σ.ev x=σ'.ev x)
 (hk:∀s V',V.le V'->V'.Fin->K (σ.put o.dst s) V'->K' (σ'.put o.dst s) V') (h:L0h P Shp sp o σ V K):L0h P Shp sp o σ' V K':=by
 revert h; unfold L0h
 rw[I0d hev]
 split
 . intro h
   exact h.mono' λv V' hle hfin hr=>a0b (λs hs=>u0a (λs' hs'=>hk s' V' hle hfin hs') hs) hr
 . exact id
theorem c0n{f:FuncId}{args:Array Value}{V V':View}{R:Value->View->Prop}(hle:V.le V')(h:a00 P f args V R) :
 a00 P f args V' λv V2=>∃V1,View.le V1 V2/\View.le V V1/\R v V1:=by
 intro w hw
 refine(h w (p0k hle hw)).mono λe w' ⟨v,V1,he,hl1,hin1,hf1,hb,hr⟩ => ?_
 let V2:View:=λi=>match V' i with|some cs=>some cs|none=>V1 i
 have hinV':V'.In w':=by
  intro b cs hb'
  obtain⟨T,fr,hwb⟩:=hw b cs hb'
  refine⟨T,fr,?_⟩
  rw[hb.block b (by
   rcases Nat.lt_or_ge b w.heap.size with h|h
   . exact h
   . rw[Array.getElem?_eq_none h]at hwb; simp at hwb)]
  exact hwb
 refine⟨v,V2,he,?_,?_,?_,hb,V1,?_,hl1,hr⟩
 . intro b cs hb'; simp[V2,hb']
 . intro b cs hb'
   simp only[V2]at hb'
   split at hb'
   . rename_i ds hd; cases hb'; exact hinV' b _ hd
   . exact hin1 b cs hb'
 . intro b cs hb'
   simp only[V2]at hb'
   split at hb'
   . rename_i ds hd; cases hb'; exact .inl hd
   . rename_i hd
     rcases hf1 b cs hb' with h1|h1
     . rw[hle b cs h1]at hd; simp at hd
     . exact .inr h1
 . intro b cs hb'
   simp only[V2]
   split
   . rename_i ds hd
     obtain⟨T,fr,h1⟩:=hinV' b ds hd
     obtain⟨T',fr',h2⟩:=hin1 b cs hb'
     rw[h1]at h2; simp at h2; simp[h2.1]
   . exact hb'
theorem z09{an:An}{o:Oper}(h:b05 P Shp ops an o σ V K) :
 (L02 ops o σ=some true/\actT P Shp an o σ V K)\/(L02 ops o σ=some false/\K (σ.put o.dst (.val undef)) V):=by
 unfold b05 at h
 split at h
 . rename_i hg; exact .inl ⟨hg,h⟩
 . rename_i hg; exact .inr ⟨hg,h⟩
 . exact h.elim
theorem B0b{an:An}{o:Oper}(hg:L02 ops o σ=some true)(h:actT P Shp an o σ V K):b05 P Shp ops an o σ V K:=by unfold b05; rw[hg]; exact h
theorem F07{an:An}{o:Oper}(hg:L02 ops o σ=some false)(h:K (σ.put o.dst (.val undef)) V):b05 P Shp ops an o σ V K:=by unfold b05; rw[hg]; exact h
theorem g0e{an:An}{o:Oper}(hcl:clsA an=1):actT P Shp an o σ V K=z0d P o σ V K:=by
 unfold actT
 split
 all_goals first
  | rfl
  | (rename_i h; simp[clsA,h]at hcl; done)
  | (simp[clsA]at hcl; split at hcl<;>simp_all)
theorem p0g{an:An}{o:Oper}(hcl:clsA an=2):actT P Shp an o σ V K=L0h P Shp an.sp o σ V K:=by
 unfold actT
 split
 all_goals first
  | rfl
  | (rename_i h; simp[clsA,h]at hcl; done)
  | (simp[clsA]at hcl; split at hcl<;>simp_all)
theorem S0t{an:An}{o:Oper}(hcl:clsA an=5):actT P Shp an o σ V K=appT P an.rt o σ V K:=by
 unfold actT
 split
 all_goals first
  | rfl
  | (rename_i h; simp[clsA,h]at hcl; done)
  | (simp[clsA]at hcl; split at hcl<;>simp_all)
theorem f0q{an:An}{o:Oper}(hcl:clsA an=4):(∀σ V K,actT P Shp an o σ V K=z0b P o σ V K)\/(∀σ V K,actT P Shp an o σ V K=W0l P o σ V K):=by
 have h:an.fl=15\/an.fl=17:=by
  simp[clsA]at hcl; split at hcl<;>simp_all
 rcases h with h|h
 . exact .inl λσ V K=>by unfold actT; rw[h]; rfl
 . exact .inr λσ V K=>by unfold actT; rw[h]; rfl
theorem C0b{o:Oper}{x y:Operand}{e:TypeId}{sz bs:Nat}(h:appQ P o=some (x,y,e,sz,bs)):x∈o.op.operands/\y∈o.op.operands:=by
 obtain⟨t,i,z,hop,_⟩:=f0e h
 simp[hop,Op.operands,Call.operands]
theorem i0e{o:Oper}{σ σ':St}{K K':St->View->Prop}(hev:∀x∈o.op.operands,σ.ev x=σ'.ev x)
 (hk:∀s V',V.le V'->V'.Fin->K (σ.put o.dst s) V'->K' (σ'.put o.dst s) V') (h:z0b P o σ V K):z0b P o σ' V K':=by
 revert h; unfold z0b
 split
 . rename_i x y e sz bs hq
   obtain⟨h1,h2⟩:=C0b hq
   rw[hev x h1,hev y h2]
   split
   . rintro⟨e0,xs,vs,a1,a2,a3,a4,a5,a6,h⟩
     exact⟨e0,xs,vs,a1,a2,a3,a4,a5,a6,λra rc V' b1 b2 b3 b4 b5=>hk _ V' b1 b2 (h ra rc V' b1 b2 b3 b4 b5)⟩
   . exact id
 . exact id
theorem q0i{o:Oper}{σ σ':St}{K K':St->View->Prop}(hev:∀x∈o.op.operands,σ.ev x=σ'.ev x)
 (hk:∀s V',V.le V'->V'.Fin->K (σ.put o.dst s) V'->K' (σ'.put o.dst s) V') (h:W0l P o σ V K):W0l P o σ' V K':=by
 revert h; unfold W0l
 split
 . rename_i t n c hop
   rw[hev n (by simp[hop,Op.operands]),hev c (by simp[hop,Op.operands])]
   split
   . split
     . rintro⟨h1,h⟩
       refine⟨h1,?_⟩
       revert h
       split
       . intro h b V' b1 b2 b3; exact hk _ V' b1 b2 (h b V' b1 b2 b3)
       . exact id
     . exact id
   . exact id
 . exact id
theorem d0m{an:An}(hcl:clsA an=4){o:Oper}{σ σ':St}{K K':St->View->Prop}(hev:∀x∈o.op.operands,σ.ev x=σ'.ev x)
 (hk:∀s V',V.le V'->V'.Fin->K (σ.put o.dst s) V'->K' (σ'.put o.dst s) V') (h:actT P Shp an o σ V K):actT P Shp an o σ' V K':=by
 rcases f0q (P:=P) (Shp:=Shp) (o:=o) hcl with e|e
 . rw[e]at h ⊢; exact i0e hev hk h
 . rw[e]at h ⊢; exact q0i hev hk h
theorem e0m{σ:St}{id:Nat}(x:Operand):(σ.kill id).ev x=p06 id (σ.ev x):=by
 cases x with
 | tmp t =>
   simp only[St.ev,St.kill,List.getD,List.getElem?_map]
   cases σ.tm[t]?<;>rfl
 | const v=>rfl
 | global g=>rfl
 | func f=>rfl
theorem B0f{ops:Array Oper}{o:Oper}{σ:St}{id:Nat}:L02 ops o (σ.kill id)=L02 ops o σ:=by
 unfold L02
 cases o.guard with
 | none=>rfl
 | some g =>
   obtain⟨j,want⟩:=g
   simp only[]
   cases (ops[j]?).bind (·.dst)with
   | none=>rfl
   | some t =>
     simp only[]
     have:(σ.kill id).tm.getD t .any=p06 id (σ.tm.getD t .any):=e0m (.tmp t)
     rw[this]
     cases σ.tm.getD t .any with
     | lst i n c=>by_cases e:i=id<;>simp[p06,e]
     | les i n c=>by_cases e:i=id<;>simp[p06,e]
     | tlst i n c r=>by_cases e:i=id<;>simp[p06,e]
     | _=>rfl
theorem m0n{σ:St}{id r:Nat}:(σ.kill id).own[r]?=(σ.own[r]?).map (d0e id):=by simp[St.kill]
theorem n0n{σ:St}{id:Nat}{d:Option Tmp}{s:SV}:(σ.put d s).kill id=(σ.kill id).put d (p06 id s):=by
 cases d with
 | none=>rfl
 | some t=>simp[St.put,St.kill,List.map_set]
theorem F0g{σ:St}{id r:Nat}{ob:Option OB}:(σ.setOwn r ob).kill id=(σ.kill id).setOwn r (d0e id ob):=by simp[St.setOwn,St.kill,List.map_set]
theorem g0q{id:Nat}{an:An}{o:Oper}{g:Option Bool}{ev:Operand->SV}{blk:Option (Option OB)}{s:SV}{ob:Option OB}(hb:D0g o an=true)(h:EA P Shp an o g ev blk V s ob) :
 EA P Shp an o g (λx=>p06 id (ev x)) (blk.map (d0e id)) V (p06 id s) (d0e id ob):=by
 cases g with
 | none=>exact h
 | some g =>
   cases g with
   | false =>
     obtain⟨rfl,h⟩:=h
     refine⟨rfl,?_⟩
     rcases h with rfl|rfl
     . exact .inl rfl
     . exact .inr rfl
   | true =>
     simp only[EA]at h ⊢
     unfold D0g at hb
     split at hb
     . rename_i hfl hsp hop
       unfold N08 at h ⊢
       rw[hfl]at h ⊢
       cases blk with
       | none=>simp[a05,hop]at h
       | some b =>
         simp only[a05,hop,hsp,fin,Option.map_some]at h ⊢
         split at h
         . rename_i he hq
           rw[he]
           simp only[p06,hq]
           obtain⟨rfl,rfl⟩:=h
           exact⟨rfl,rfl⟩
         . rename_i he hq
           rw[he]
           simp only[p06,hq]
           obtain⟨hpa,rfl,rfl⟩:=h
           exact⟨hpa,rfl,rfl⟩
         . exact h.elim
     . rename_i hfl hsp hop
       unfold N08 at h ⊢
       rw[hfl]at h ⊢
       cases blk with
       | none=>simp[a05,hop]at h
       | some b =>
         simp only[a05,hop,hsp,fin,Option.map_some]at h ⊢
         split at h
         . rename_i he hi
           rw[he,hi]
           simp only[p06]
           split at h
           . rename_i hE
             split at h
             . rename_i hZ
               obtain⟨h1,rfl,rfl⟩:=h
               exact⟨h1,rfl,rfl⟩
             . exact h.elim
           . exact h.elim
         . rename_i he hi
           rw[he,hi]
           simp only[p06]
           split at h
           . rename_i hE
             split at h
             . rename_i hZ
               obtain⟨h1,rfl,rfl⟩:=h
               exact⟨h1,rfl,rfl⟩
             . exact h.elim
           . exact h.elim
         . rename_i he hi
           rw[he,hi]
           simp only[p06]
           split at h
           . rename_i hE
             split at h
             . rename_i hZ
               obtain⟨h1,rfl,rfl⟩:=h
               exact⟨h1,rfl,rfl⟩
             . exact h.elim
           . exact h.elim
         . exact h.elim
     . rename_i hfl hsp hop
       unfold N08 at h ⊢
       rw[hfl]at h ⊢
       cases blk with
       | none=>simp[B07,hop]at h
       | some b =>
         simp only[B07,hop,hsp,fin,Option.map_some]at h ⊢
         split at h
         . rename_i he
           rw[he]
           simp only[p06]
           split at h
           . rename_i hA hZ
             obtain⟨x,h1,h2,h⟩:=h
             refine⟨x,h1,h2,?_⟩
             split at h
             . rename_i hv
               split at h
               . rename_i hq
                 obtain⟨rfl,rfl⟩:=h
                 exact⟨rfl,rfl⟩
               . exact h.elim
             . exact h.elim
           . rename_i hA
             obtain⟨x,h1,rfl,rfl⟩:=h
             exact⟨x,h1,rfl,rfl⟩
           . exact h.elim
         . exact h.elim
     . rename_i hfl hsp hop
       unfold N08 at h ⊢
       rw[hfl]at h ⊢
       simp only[T06,hop,hsp,fin]at h ⊢
       cases blk with
       | none=>exact h.elim
       | some b=>obtain⟨rfl,rfl⟩:=h; exact⟨rfl,rfl⟩
     . rename_i hfl hsp hop
       unfold N08 at h ⊢
       rw[hfl]at h ⊢
       simp only[T06,hop,hsp,fin]at h ⊢
       cases blk with
       | none=>exact h.elim
       | some b=>obtain⟨rfl,rfl⟩:=h; exact⟨rfl,rfl⟩
     . simp at hb
theorem a0v(hap:ox.apart ops oy=true)(hb:D0g oy ay=true)(hx:clsA ax=5)(hrt:ay.rt≠ax.rt)
 (h:b05 P Shp ops ay oy σ V λσ1 V1=>b05 P Shp ops ax ox σ1 V1 K):b05 P Shp ops ax ox σ V λσ1 V1=>b05 P Shp ops ay oy σ1 V1 K:=by
 have hy:clsA ay=0:=by
  unfold D0g at hb; unfold clsA
  split at hb
  . rename_i h _ _; rw[h]; rfl
  . rename_i h _ _; rw[h]; rfl
  . rename_i h _ _; rw[h]; rfl
  . rename_i h _ _; rw[h]; rfl
  . rename_i h _ _; rw[h]; rfl
  . simp at hb
 obtain⟨hdx,hdd,hdy⟩:=Oper.apart_spec hap
 obtain⟨sy,oby,hEy,h⟩:=C0k hy h
 have hev:∀x∈ox.op.operands,((σ.setOwn ay.rt oby).put oy.dst sy).ev x=σ.ev x:=λx hx=>by rw[Z0a (M02 hdy x hx),m08]
 have hg:L02 ops ox ((σ.setOwn ay.rt oby).put oy.dst sy)=L02 ops ox σ:=by rw[X03 hdy,Y04]
 rcases z09 h with⟨g,h⟩|⟨g,h⟩
 . rw[hg]at g
   refine B0b g ?_
   rw[S0t hx]at h ⊢
   unfold appT at h ⊢
   split at h
   . rename_i x y e sz bs hq
     obtain⟨m1,m2⟩:=C0b hq
     rw[hev x m1,hev y m2,I0a,H09 hrt]at h
     revert h
     split
     . split
       . rintro⟨xs,vs,a1,a2,a3,a4,a5,a6,h⟩
         refine⟨xs,vs,a1,a2,a3,a4,a5,a6,λcap' l' hok => ?_⟩
         have hk:=h cap' l' hok
         refine o0c hy (s:=p06 ax.rt sy) (ob:=d0e ax.rt oby) ?_ ?_
         . rw[X03 hdx,Y04,B0f,I0a,H09 (λe=>hrt e.symm),m0n]
           refine w0a (λx hx => ?_) (g0q hb hEy)
           rw[Z0a (M02 hdx x hx),m08,e0m]
         . have e1:∀(X:SV) (L:Option OB),((((σ.kill ax.rt).setOwn ax.rt L).put ox.dst X).setOwn ay.rt (d0e ax.rt oby)).put oy.dst (p06 ax.rt sy) =
               ((((σ.setOwn ay.rt oby).put oy.dst sy).kill ax.rt).setOwn ax.rt L).put ox.dst X:=by
             intro X L
             rw[n0n,F0g,T05 (σ:=(σ.kill ax.rt).setOwn ax.rt L),T05 (σ:=(σ.kill ax.rt).setOwn ay.rt (d0e ax.rt oby)),e04 hdd,A0b hrt]
           rw[e1]; exact hk
       . exact λh=>h.elim
     . split
       . rintro⟨xs,vs,a1,a2,a3,a4,a5,a6,h⟩
         refine⟨xs,vs,a1,a2,a3,a4,a5,a6,λcap' l' hok => ?_⟩
         have hk:=h cap' l' hok
         refine o0c hy (s:=p06 ax.rt sy) (ob:=d0e ax.rt oby) ?_ ?_
         . rw[X03 hdx,Y04,B0f,I0a,H09 (λe=>hrt e.symm),m0n]
           refine w0a (λx hx => ?_) (g0q hb hEy)
           rw[Z0a (M02 hdx x hx),m08,e0m]
         . have e1:∀(X:SV) (L:Option OB),((((σ.kill ax.rt).setOwn ax.rt L).put ox.dst X).setOwn ay.rt (d0e ax.rt oby)).put oy.dst (p06 ax.rt sy) =
               ((((σ.setOwn ay.rt oby).put oy.dst sy).kill ax.rt).setOwn ax.rt L).put ox.dst X:=by
             intro X L
             rw[n0n,F0g,T05 (σ:=(σ.kill ax.rt).setOwn ax.rt L),T05 (σ:=(σ.kill ax.rt).setOwn ay.rt (d0e ax.rt oby)),e04 hdd,A0b hrt]
           rw[e1]; exact hk
       . exact λh=>h.elim
     . exact λh=>h.elim
   . exact h.elim
 . rw[hg]at g
   refine F07 g (o0c hy (s:=sy) (ob:=oby) ?_ ?_)
   . rw[X03 hdx,I0a]
     exact w0a (λx hx=>by rw[Z0a (M02 hdx x hx)]) hEy
   . rw[T05,e04 hdd]; exact h
theorem t0o{an:An}(hcl:clsA an=6):(∀o σ V K,actT P Shp an o σ V K=A0d P Shp an.sp an.rt o σ V K)\/(∀o σ V K,actT P Shp an o σ V K=M0h P an.rt o σ V K)\/(∀o σ V K,actT P Shp an o σ V K=c0e P an.rt o σ V K):=by
 have h:an.fl=24\/an.fl=25\/an.fl=26:=by
  simp[clsA]at hcl; split at hcl<;>simp_all
 rcases h with h|h|h
 . exact .inl λo σ V K=>by unfold actT; rw[h]; rfl
 . exact .inr (.inl λo σ V K=>by unfold actT; rw[h]; rfl)
 . exact .inr (.inr λo σ V K=>by unfold actT; rw[h]; rfl)
theorem f0m{sp:Bool}{rt:Nat}{o:Oper}{σ σ':St}{K K':St->View->Prop}(hev:∀x∈o.op.operands,σ.ev x=σ'.ev x)(hown:σ.own[rt]?=σ'.own[rt]?)
 (hk:∀L s V',V.le V'->V'.Fin->K ((σ.setOwn rt L).put o.dst s) V'->K' ((σ'.setOwn rt L).put o.dst s) V') (h:A0d P Shp sp rt o σ V K):A0d P Shp sp rt o σ' V K':=by
 revert h; unfold A0d
 rw[I0d hev,hown]
 split
 . intro h; exact h.mono λv m' V' hle hfin r=>a0b (λs=>u0a λs=>hk _ s V' hle hfin) r
 . exact id
theorem u0o{rt:Nat}{o:Oper}{σ σ':St}{K K':St->View->Prop}(hev:∀x∈o.op.operands,σ.ev x=σ'.ev x)(hown:σ.own[rt]?=σ'.own[rt]?)
 (hk:∀L s,K ((σ.setOwn rt L).put o.dst s) V->K' ((σ'.setOwn rt L).put o.dst s) V) (h:M0h P rt o σ V K):M0h P rt o σ' V K':=by
 revert h; unfold M0h
 rw[hown]
 split
 . rename_i x y e sz bs ty m hq hm
   obtain⟨h1,h2⟩:=C0b hq
   rw[hev x h1,hev y h2]
   split
   . rintro⟨xs,vs,a1,a2,a3,a4,a5,a6,a7,a8,h3,h4⟩
     exact⟨xs,vs,a1,a2,a3,a4,a5,a6,a7,a8,h3,λra rc m' g=>hk _ _ (h4 ra rc m' g)⟩
   . exact id
 . exact id
theorem G0g{rt:Nat}{o:Oper}{σ σ':St}{K K':St->View->Prop}(hev:∀x∈o.op.operands,σ.ev x=σ'.ev x)(hown:σ.own[rt]?=σ'.own[rt]?)
 (hk:∀L s,K ((σ.setOwn rt L).put o.dst s) V->K' ((σ'.setOwn rt L).put o.dst s) V) (h:c0e P rt o σ V K):c0e P rt o σ' V K':=by
 revert h; unfold c0e
 rw[hown]
 split
 . rename_i t n c hop
   rw[hev n (by simp[hop,Op.operands]),hev c (by simp[hop,Op.operands])]
   split
   . split
     . split
       . rintro⟨h1,h⟩
         refine⟨h1,?_⟩
         revert h
         split
         . intro h b b1 b2; exact hk _ _ (h b b1 b2)
         . exact id
       . exact id
     . exact id
   . exact id
 . exact id
theorem b0v(hap:ox.apart ops oy=true)(hy:clsA ay=0)(hx:clsA ax=6)(hrt:ay.rt≠ax.rt)
 (h:b05 P Shp ops ay oy σ V λσ1 V1=>b05 P Shp ops ax ox σ1 V1 K):b05 P Shp ops ax ox σ V λσ1 V1=>b05 P Shp ops ay oy σ1 V1 K:=by
 obtain⟨hdx,hdd,hdy⟩:=Oper.apart_spec hap
 obtain⟨sy,oby,hEy,h⟩:=C0k hy h
 have hfin:∀L s V',V.le V'->K ((((σ.setOwn ay.rt oby).put oy.dst sy).setOwn ax.rt L).put ox.dst s) V'->b05 P Shp ops ay oy ((σ.setOwn ax.rt L).put ox.dst s) V' K:=by
  intro L s V' hle hk
  refine o0c hy (s:=sy) (ob:=oby) ?_ ?_
  . rw[X03 hdx,Y04,I0a,H09 (λe=>hrt e.symm)]
    exact e0q hle (w0a (λx hx=>by rw[Z0a (M02 hdx x hx),m08]) hEy)
  . have e1:(((σ.setOwn ax.rt L).put ox.dst s).setOwn ay.rt oby).put oy.dst sy=(((σ.setOwn ay.rt oby).put oy.dst sy).setOwn ax.rt L).put ox.dst s:=by
      rw[T05 (σ:=σ.setOwn ax.rt L),T05 (σ:=σ.setOwn ay.rt oby),e04 hdd,A0b hrt]
    rw[e1]; exact hk
 have hev:∀x∈ox.op.operands,((σ.setOwn ay.rt oby).put oy.dst sy).ev x=σ.ev x:=λx hx=>by rw[Z0a (M02 hdy x hx),m08]
 have hown:((σ.setOwn ay.rt oby).put oy.dst sy).own[ax.rt]?=σ.own[ax.rt]?:=by rw[I0a,H09 hrt]
 have hg:L02 ops ox ((σ.setOwn ay.rt oby).put oy.dst sy)=L02 ops ox σ:=by rw[X03 hdy,Y04]
 rcases z09 h with⟨g,h⟩|⟨g,h⟩
 . rw[hg]at g
   refine B0b g ?_
   rcases t0o (P:=P) (Shp:=Shp) hx with hx|hx|hx
   . rw[hx]at h ⊢; exact f0m hev hown (λL s V' hle _=>hfin L s V' hle) h
   . rw[hx]at h ⊢; exact u0o hev hown (λL s=>hfin L s V (View.le_refl V)) h
   . rw[hx]at h ⊢; exact G0g hev hown (λL s=>hfin L s V (View.le_refl V)) h
 . rw[hg]at g
   refine F07 g (o0c hy (s:=sy) (ob:=oby) ?_ ?_)
   . rw[X03 hdx,I0a]
     exact w0a (λx hx=>by rw[Z0a (M02 hdx x hx)]) hEy
   . rw[T05,e04 hdd]; exact h
theorem i0q(hap:ox.apart ops oy=true)(hy:clsA ay=0)(hx:clsA ax=1\/clsA ax=2\/clsA ax=4)
 (h:b05 P Shp ops ay oy σ V λσ1 V1=>b05 P Shp ops ax ox σ1 V1 K):b05 P Shp ops ax ox σ V λσ1 V1=>b05 P Shp ops ay oy σ1 V1 K:=by
 obtain⟨hdx,hdd,hdy⟩:=Oper.apart_spec hap
 obtain⟨sy,oby,hEy,h⟩:=C0k hy h
 have hfin:∀s V',V.le V'->K (((σ.setOwn ay.rt oby).put oy.dst sy).put ox.dst s) V'->b05 P Shp ops ay oy (σ.put ox.dst s) V' K:=by
  intro s V' hle hk
  refine o0c hy (s:=sy) (ob:=oby) ?_ ?_
  . rw[X03 hdx,I0a]
    exact e0q hle (w0a (λx hx=>by rw[Z0a (M02 hdx x hx)]) hEy)
  . rw[T05,e04 hdd]; exact hk
 have hev:∀x∈ox.op.operands,((σ.setOwn ay.rt oby).put oy.dst sy).ev x=σ.ev x:=λx hx=>by rw[Z0a (M02 hdy x hx),m08]
 have hg:L02 ops ox ((σ.setOwn ay.rt oby).put oy.dst sy)=L02 ops ox σ:=by rw[X03 hdy,Y04]
 rcases z09 h with⟨g,h⟩|⟨g,h⟩
 . rw[hg]at g
   refine B0b g ?_
   rcases hx with hx|hx|hx
   . rw[g0e hx]at h ⊢; exact E0g hev (λs V' hle _=>hfin s V' hle) h
   . rw[p0g hx]at h ⊢; exact p0i hev (λs V' hle _=>hfin s V' hle) h
   . exact d0m hx hev (λs V' hle _=>hfin s V' hle) h
 . rw[hg]at g
   exact F07 g (hfin _ V (View.le_refl V) h)
theorem H0g{an:An}{o:Oper}(hcl:clsA an=1){σ':St}(hg:L02 ops o σ'=L02 ops o σ)(hev:∀x∈o.op.operands,σ'.ev x=σ.ev x)(h:b05 P Shp ops an o σ' V K) :
 (L02 ops o σ=some true/\∃cells n,Y0d P o σ.ev=some (cells,n)/\∀(b:Nat) (V':View),V.le V'->V'.Fin->V' b=some cells->K (σ'.put o.dst (.val (.slice (some ⟨b,0,none⟩) n n))) V') \/
 (L02 ops o σ=some false/\K (σ'.put o.dst (.val undef)) V):=by
 rcases z09 h with⟨g,h⟩|⟨g,h⟩
 . rw[hg]at g
   rw[g0e hcl]at h
   unfold z0d at h
   rw[l08 hev]at h
   split at h
   . rename_i cells n hC; exact .inl ⟨g,cells,n,hC,h⟩
   . exact h.elim
 . rw[hg]at g
   exact .inr ⟨g,h⟩
theorem I09{an:An}{o:Oper}(hcl:clsA an=1)(hg:L02 ops o σ=some true){cells:Array Value}{n:Nat}(hC:Y0d P o σ.ev=some (cells,n))
 (h:∀(b:Nat) (V':View),V.le V'->V'.Fin->V' b=some cells->K (σ.put o.dst (.val (.slice (some ⟨b,0,none⟩) n n))) V'):b05 P Shp ops an o σ V K:=by
 refine B0b hg ?_
 rw[g0e hcl]
 unfold z0d
 rw[hC]
 exact h
theorem View.Fin.more{V:View}(h:V.Fin)(cells:Array Value):∃b V',View.le V V'/\V'.Fin/\V' b=some cells:=by
 obtain⟨n,hn⟩:=h
 refine⟨n,λi=>if i=n then some cells else V i,f0a (hn n (Nat.le_refl n)),⟨n+1,λb hb => ?_⟩,by simp⟩
 have:b≠n:=by omega
 simp[this,hn b (by omega)]
theorem w0t(hV:V.Fin)(hap:ox.apart ops oy=true)(hy:clsA ay=1\/clsA ay=2)(hx:clsA ax=1)
 (h:b05 P Shp ops ay oy σ V λσ1 V1=>b05 P Shp ops ax ox σ1 V1 K):b05 P Shp ops ax ox σ V λσ1 V1=>b05 P Shp ops ay oy σ1 V1 K:=by
 obtain⟨hdx,hdd,hdy⟩:=Oper.apart_spec hap
 have evx:∀s,∀x∈ox.op.operands,(σ.put oy.dst s).ev x=σ.ev x:=λs x hx=>Z0a (M02 hdy x hx)
 have evy:∀s,∀x∈oy.op.operands,(σ.put ox.dst s).ev x=σ.ev x:=λs x hx=>Z0a (M02 hdx x hx)
 have gx:∀s,L02 ops ox (σ.put oy.dst s)=L02 ops ox σ:=λs=>X03 hdy
 have gy:∀s,L02 ops oy (σ.put ox.dst s)=L02 ops oy σ:=λs=>X03 hdx
 rcases z09 h with⟨g,h⟩|⟨g,h⟩
 . rcases hy with hy|hy
   . rw[g0e hy]at h
     unfold z0d at h
     split at h
     . rename_i cy ny hCy
       obtain⟨b0,V0,hle0,hfin0,hb0⟩:=hV.more cy
       rcases H0g hx (gx _) (evx _) (h b0 V0 hle0 hfin0 hb0)with⟨gX,cx,nx,hCx,_⟩|⟨gX,_⟩
       . refine I09 hx gX hCx λb V' hle hfin hb => ?_
         refine I09 hy (by rw[gy]; exact g) (by rw[l08 (evy _)]; exact hCy) λb2 V2 hle2 hfin2 hb2 => ?_
         rcases H0g hx (gx _) (evx _) (h b2 V2 (View.le_trans hle hle2) hfin2 hb2)with⟨_,cx',nx',hCx',hk⟩|⟨gX',_⟩
         . rw[hCx]at hCx'; cases hCx'
           have:=hk b V2 (View.le_refl _) hfin2 (hle2 _ _ hb)
           rw[e04 hdd]; exact this
         . rw[gX]at gX'; cases gX'
       . refine F07 gX ?_
         refine I09 hy (by rw[gy]; exact g) (by rw[l08 (evy _)]; exact hCy) λb2 V2 hle2 hfin2 hb2 => ?_
         rcases H0g hx (gx _) (evx _) (h b2 V2 hle2 hfin2 hb2)with⟨gX',_⟩|⟨_,hk⟩
         . rw[gX]at gX'; cases gX'
         . rw[e04 hdd]; exact hk
     . exact h.elim
   . rw[p0g hy]at h
     unfold L0h at h
     split at h
     . rename_i f vs hq
       have hq':∀s,l0j P oy (σ.put ox.dst s).ev=some (f,vs):=λs=>by rw[I0d (evy s)]; exact hq
       obtain⟨v0,V0,hle0,hfin0,hr0⟩:=h.inst hV
       obtain⟨s0,hk0,_⟩:=u0t (e0e hr0)
       have hcall:∀s V',V.le V'->V'.Fin->(∀s' V1 V2,V.le V1->V1.le V2->V'.le V2->V2.Fin->b05 P Shp ops ax ox (σ.put oy.dst s') V1 K->K ((σ.put ox.dst s).put oy.dst s') V2) ->
        b05 P Shp ops ay oy (σ.put ox.dst s) V' K:=by
        intro s V' hle hfin hK
        refine B0b (by rw[gy]; exact g) ?_
        rw[p0g hy]
        unfold L0h
        rw[hq' s]
        refine(c0n hle h).mono' λv V2 hle2 hfin2 ⟨V1,hl12,hl1,hr⟩ => ?_
        exact a0b (λs hs=>u0a (λs' hs'=>hK s' V1 V2 hl1 hl12 hle2 hfin2 hs') hs) hr
       rcases H0g hx (gx _) (evx _) hk0 with⟨gX,cx,nx,hCx,_⟩|⟨gX,_⟩
       . refine I09 hx gX hCx λb V' hle hfin hb=>hcall _ V' hle hfin λs' V1 V2 hl1 hl12 hl2 hfin2 hs => ?_
         rcases H0g hx (gx _) (evx _) hs with⟨_,cx',nx',hCx',hk⟩|⟨gX',_⟩
         . rw[hCx]at hCx'; cases hCx'
           have:=hk b V2 hl12 hfin2 (hl2 _ _ hb)
           rw[e04 hdd]; exact this
         . rw[gX]at gX'; cases gX'
       . refine F07 gX (B0b (by rw[gy]; exact g) ?_)
         rw[p0g hy]
         unfold L0h
         rw[hq' (.val undef)]
         refine h.mono' λv V1 hl1 hf1 hr=>a0b (λs hs=>u0a (λs' hs' => ?_) hs) hr
         rcases H0g hx (gx _) (evx _) hs' with⟨gX',_⟩|⟨_,hk⟩
         . rw[gX]at gX'; cases gX'
         . rw[e04 hdd]; exact hk
     . exact h.elim
 . rcases H0g hx (gx _) (evx _) h with⟨gX,cx,nx,hCx,hk⟩|⟨gX,hk⟩
   . refine I09 hx gX hCx λb V' hle hfin hb=>F07 (by rw[gy]; exact g) ?_
     rw[e04 hdd]; exact hk b V' hle hfin hb
   . refine F07 gX (F07 (by rw[gy]; exact g) ?_)
     rw[e04 hdd]; exact hk
end swap
