/- Part. -/
import Derived.Test.YtfdaofhjkdabbaaGreatVcE
namespace Go.Vc
open Go Go.RowKit
def wrA(an:An):Bool:=an.fl==3||an.fl==6||an.fl==16||an.fl==23
def clsA(an:An):Nat:=match an.fl with|10=>2|11=>1|13=>5|14=>3|15=>4|17=>4|18=>3|19=>3|21=>3|24=>6|25=>6|26=>6|_=>0
theorem Q10{sp:Bool}{s:SV}{k:SV->Prop}(h:fin sp s k):∃s',k s'/\fin sp s (λt=>t=s'):=by
 revert h; unfold fin
 split
 . intro h; exact⟨_,h,rfl⟩
 . split
   . intro h; exact⟨_,h,rfl⟩
   . rename_i b
     intro h
     cases b with
     | true=>exact⟨_,h.1 rfl,⟨λ_=>rfl,by simp⟩⟩
     | false=>exact⟨_,h.2 rfl,⟨by simp,λ_=>rfl⟩⟩
   . intro h; exact h.elim
theorem S09{sp:Bool}{s:SV}{k k':SV->Prop}(hk:∀s,k s->k' s)(h:fin sp s k):fin sp s k':=by
 revert h; unfold fin
 split
 . exact hk _
 . split
   . exact hk _
   . intro h; exact⟨λe=>hk _ (h.1 e),λe=>hk _ (h.2 e)⟩
   . exact id
def EA(P:Program)(Shp:s04)(an:An)(o:Oper)(g:Option Bool)(ev:Operand->SV)(blk:Option (Option OB))(V:View)(s:SV)(ob:Option OB):Prop :=
 match g with
 | some true=>L08 P Shp V an o ev blk λs0 ob0=>fin an.sp s0 (λs1=>s1=s)/\ob0=ob
 | some false=>s = .val undef/\(blk=some ob\/blk=none)
 | none=>False
theorem A09{σ:St}{rt:Nat}{b:Option OB}(h:σ.own[rt]?=none):σ.setOwn rt b=σ:=by
 unfold St.setOwn
 congr 1
 have:σ.own.length<=rt:=by
  rcases Nat.lt_or_ge rt σ.own.length with h'|h'
  . rw[List.getElem?_eq_getElem h']at h; simp at h
  . exact h'
 exact List.set_eq_of_length_le this
theorem k0t{P:Program}{Shp an o σ V}{K:St->View->Prop}(hcl:clsA an=0) :
 actT P Shp an o σ V K=L08 P Shp V an o σ.ev σ.own[an.rt]? λs ob=>fin an.sp s λs=>K ((σ.setOwn an.rt ob).put o.dst s) V:=by
 unfold actT
 split
 all_goals first
  | rfl
  | (rename_i h; simp[clsA,h]at hcl; done)
theorem x0o{P:Program}{Shp ops an o σ V}{K:St->View->Prop}(hcl:clsA an=0)(h:E04 P Shp ops an o σ V K) :
 ∃s ob,EA P Shp an o (q02 ops o σ) σ.ev σ.own[an.rt]? V s ob/\K ((σ.setOwn an.rt ob).put o.dst s) V:=by
 unfold E04 at h
 split at h
 . rename_i hg
   rw[k0t hcl]at h
   obtain⟨s,ob,hk,hc⟩:=j0t h
   obtain⟨s',hk',hf⟩:=Q10 hk
   refine⟨s',ob,?_,hk'⟩
   rw[hg]
   exact m0g (λs0 ob0 ⟨e1,e2⟩=>⟨by rw[e1]; exact hf,e2⟩) hc
 . rename_i hg
   cases hb:σ.own[an.rt]? with
   | none=>exact⟨.val undef,none,by rw[hg]; exact⟨rfl,.inr rfl⟩,by rw[A09 hb]; exact h⟩
   | some b=>exact⟨.val undef,b,by rw[hg]; exact⟨rfl,.inl rfl⟩,by rw[f00 hb]; exact h⟩
 . exact h.elim
theorem l0c{P:Program}{Shp ops an o σ V s ob}{K:St->View->Prop}(hcl:clsA an=0)(h:EA P Shp an o (q02 ops o σ) σ.ev σ.own[an.rt]? V s ob)
 (hk:K ((σ.setOwn an.rt ob).put o.dst s) V):E04 P Shp ops an o σ V K:=by
 unfold E04
 cases hg:q02 ops o σ with
 | none=>rw[hg]at h; exact h.elim
 | some g =>
   rw[hg]at h
   cases g with
   | true =>
     simp only[]
     rw[k0t hcl]
     refine m0g (λs0 ob0 ⟨h1,h2⟩ => ?_) h
     subst h2
     exact S09 (λs1 e=>by rw[e]; exact hk) h1
   | false =>
     simp only[]
     obtain⟨rfl,hb⟩:=h
     rcases hb with hb|hb
     . rw[f00 hb]at hk; exact hk
     . rw[A09 hb]at hk; exact hk
theorem M0w{P:Program}{Shp an o g ev blk V V' s ob}(hV:View.le V V')(h:EA P Shp an o g ev blk V s ob):EA P Shp an o g ev blk V' s ob:=by
 cases g with
 | none=>exact h
 | some g=>cases g with
   | true=>exact p0u hV h
   | false=>exact h
theorem T09{P:Program}{Shp an o g ev ev' blk V s ob}(hev:∀x∈o.op.operands,ev x=ev' x)(h:EA P Shp an o g ev blk V s ob):EA P Shp an o g ev' blk V s ob:=by
 cases g with
 | none=>exact h
 | some g=>cases g with
   | true=>exact n0r hev h
   | false=>exact h
theorem f0m{P:Program}{Shp an o g ev blk V s ob}(hw:wrA an=false)(h:EA P Shp an o g ev blk V s ob):blk=some ob\/blk=none:=by
 cases g with
 | none=>exact h.elim
 | some g=>cases g with
   | false=>exact h.2
   | true =>
     cases blk with
     | none=>exact .inr rfl
     | some b =>
       have h3:an.fl≠3:=by intro e; simp[wrA,e]at hw
       have h6:an.fl≠6:=by intro e; simp[wrA,e]at hw
       have h16:an.fl≠16:=by intro e; simp[wrA,e]at hw
       have h23:an.fl≠23:=by intro e; simp[wrA,e]at hw
       obtain⟨s0,ob0,⟨rfl,_,rfl⟩,_⟩:=j0t (q0u h3 h6 h16 h23 h)
       exact .inl rfl
theorem B09{σ:St}{r r':Nat}{ob:Option OB}(h:r≠r'):(σ.setOwn r ob).own[r']?=σ.own[r']?:=by
 simp[St.setOwn,List.getElem?_set_ne h]
theorem o0a{σ:St}{d:Option Tmp}{s:SV}:(σ.put d s).own=σ.own:=by cases d<;>rfl
theorem D0a{σ:St}{d:Option Tmp}{s:SV}{x:Operand}(h:∀t,d=some t->x ≠ .tmp t):(σ.put d s).ev x=σ.ev x:=by
 cases d with
 | none=>rfl
 | some t =>
   cases x with
   | tmp u =>
     have hne:t≠u:=λe=>h t rfl (e▸rfl)
     simp[St.ev,St.put,List.getD,List.getElem?_set_ne hne]
   | const v=>rfl
   | global g=>rfl
   | func f=>rfl
theorem n08{σ:St}{r:Nat}{ob:Option OB}{x:Operand}:(σ.setOwn r ob).ev x=σ.ev x:=by cases x<;>rfl
theorem s03{ops:Array Oper}{o:Oper}{σ:St}{d:Option Tmp}{s:SV}(h:∀t,d=some t->t∉o.looksAt ops):q02 ops o (σ.put d s)=q02 ops o σ:=by
 unfold q02
 cases hg:o.guard with
 | none=>rfl
 | some g =>
   obtain⟨j,want⟩:=g
   simp only[]
   cases ht:(ops[j]?).bind (·.dst)with
   | none=>rfl
   | some t =>
     simp only[]
     cases d with
     | none=>rfl
     | some u =>
       have hne:u≠t:=by
        rintro rfl
        refine h u rfl ?_
        simp[Oper.looksAt,hg,ht]
       have:(σ.put (some u) s).tm.getD t .any=σ.tm.getD t .any:=by simp[St.put,List.getD,List.getElem?_set_ne hne]
       rw[this]
theorem t04{ops:Array Oper}{o:Oper}{σ:St}{r:Nat}{ob:Option OB}:q02 ops o (σ.setOwn r ob)=q02 ops o σ:=rfl
theorem s02{ops:Array Oper}{o:Oper}{d:Option Tmp}(h:∀t,d=some t->t∉o.looksAt ops):∀x∈o.op.operands,∀t,d=some t->x ≠ .tmp t:=by
 intro x hx t ht e
 refine h t ht ?_
 subst e
 simp only[Oper.looksAt,List.mem_append,List.mem_filterMap]
 exact .inl ⟨.tmp t,by simpa using hx,rfl⟩
theorem A03{σ:St}{d d':Option Tmp}{s s':SV}(h:∀t,d=some t->d'≠some t):(σ.put d s).put d' s'=(σ.put d' s').put d s:=by
 cases d with
 | none=>rfl
 | some t=>cases d' with
   | none=>rfl
   | some t' =>
     have hne:t≠t':=λe=>h t rfl (by rw[e])
     simp only[St.put]
     congr 1
     exact List.set_comm _ _ hne
theorem q05{σ:St}{r:Nat}{ob:Option OB}{d:Option Tmp}{s:SV}:(σ.put d s).setOwn r ob=(σ.setOwn r ob).put d s:=by cases d<;>rfl
theorem j0b{σ:St}{r r':Nat}{ob ob':Option OB}(h:r≠r'):(σ.setOwn r ob).setOwn r' ob'=(σ.setOwn r' ob').setOwn r ob:=by
 simp only[St.setOwn]
 congr 1
 exact List.set_comm _ _ h
def l0i(o:Oper)(an:An):Bool :=
 match an.fl,an.sp,o.op with
 | 7,false,.fieldAddr _ _ _=>true
 | 7,false,.indexAddr _ _ _=>true
 | 5,false,.load _ _=>true
 | 2,false,.move _=>true
 | 2,false,.assign _=>true
 | _,_,_=>false
def y0o(ops:Array Oper)(y x:Oper×An):Bool :=
 Oper.apart ops x.1 y.1 &&
 match clsA y.2,clsA x.2 with
 | 0,0 => !(Nat.beq y.2.rt x.2.rt)||(!wrA y.2 && !wrA x.2)
 | 0,1=>true
 | 1,1=>true
 | 2,1=>true
 | 0,2=>true
 | 0,4=>true
 | 0,5=>l0i y.1 y.2 && !(Nat.beq y.2.rt x.2.rt)
 | 0,6 => !(Nat.beq y.2.rt x.2.rt)
 | _,_=>false
section swap
variable {P:Program} {Shp:s04} {ops:Array Oper} {oy ox:Oper} {ay ax:An} {σ:St} {V:View} {K:St->View->Prop}
theorem P12(hap:ox.apart ops oy=true)(hy:clsA ay=0)(hx:clsA ax=0)(hrt:ay.rt≠ax.rt\/(wrA ay=false/\wrA ax=false))
 (h:E04 P Shp ops ay oy σ V λσ1 V1=>E04 P Shp ops ax ox σ1 V1 K):E04 P Shp ops ax ox σ V λσ1 V1=>E04 P Shp ops ay oy σ1 V1 K:=by
 obtain⟨hdx,hdd,hdy⟩:=Oper.apart_spec hap
 obtain⟨sy,oby,hEy,h⟩:=x0o hy h
 obtain⟨sx,obx,hEx,h⟩:=x0o hx h
 rw[s03 hdy,t04,o0a]at hEx
 have hEx:EA P Shp ax ox (q02 ops ox σ) σ.ev (σ.setOwn ay.rt oby).own[ax.rt]? V sx obx :=
  T09 (λx hx=>by rw[D0a (s02 hdy x hx),n08]) hEx
 have hown:(σ.setOwn ay.rt oby).own[ax.rt]?=σ.own[ax.rt]?:=by
  rcases hrt with h1|⟨h1,h2⟩
  . exact B09 h1
  . rcases f0m h1 hEy with e|e
    . rw[f00 e]
    . rw[A09 e]
 rw[hown]at hEx
 refine l0c hx hEx (l0c hy (s:=sy) (ob:=oby) ?_ ?_)
 . rw[s03 hdx,t04,o0a]
   have hown':(σ.setOwn ax.rt obx).own[ay.rt]?=σ.own[ay.rt]?:=by
    rcases hrt with h1|⟨h1,h2⟩
    . exact B09 (λe=>h1 e.symm)
    . rcases f0m h2 hEx with e|e
      . rw[f00 e]
      . rw[A09 e]
   rw[hown']
   exact T09 (λx hx=>by rw[D0a (s02 hdx x hx),n08]) hEy
 . have e:(((σ.setOwn ax.rt obx).put ox.dst sx).setOwn ay.rt oby).put oy.dst sy=(((σ.setOwn ay.rt oby).put oy.dst sy).setOwn ax.rt obx).put ox.dst sx:=by
     rw[q05,q05,A03 hdd]
     congr 2
     rcases hrt with h1|⟨h1,h2⟩
     . exact j0b (λe=>h1 e.symm)
     . have ey:=f0m h1 hEy
       have ex:=f0m h2 hEx
       have:∀ {r:Nat} {b:Option OB} {τ:St},(τ.own[r]?=some b\/τ.own[r]?=none)->τ.setOwn r b=τ:=by
        intro r b τ hh; rcases hh with hh|hh
        . exact f00 hh
        . exact A09 hh
       rw[this ex,this ey,this ex]
   rw[e]; exact h
theorem m0i{o:Oper}{σ σ':St}{K K':St->View->Prop}(hev:∀x∈o.op.operands,σ.ev x=σ'.ev x)
 (hk:∀s V',V.le V'->V'.Fin->K (σ.put o.dst s) V'->K' (σ'.put o.dst s) V') (h:K0d P o σ V K):K0d P o σ' V K':=by
 revert h; unfold K0d
 rw[m08 hev]
 split
 . intro h b V' hle hfin hb; exact hk _ _ hle hfin (h b V' hle hfin hb)
 . exact id
theorem E0a{ts:List TypeId}{v:Value}{k k':SV->Prop}(hk:∀s,k s->k' s)(h:resT Shp ts v k):resT Shp ts v k':=by
 revert h; unfold resT
 split
 . rintro⟨h1,h2⟩; exact⟨h1,hk _ h2⟩
 . rintro⟨x,h1,h2⟩; exact⟨x,h1,hk _ h2⟩
 . rintro⟨x,y,h1,h2⟩; exact⟨x,y,h1,hk _ h2⟩
 . rintro⟨x,y,z,h1,h2⟩; exact⟨x,y,z,h1,hk _ h2⟩
 . rintro⟨x,y,z,q,h1,h2⟩; exact⟨x,y,z,q,h1,hk _ h2⟩
 . exact id
theorem n0e{o:Oper}{ev ev':Operand->SV}(hev:∀x∈o.op.operands,ev x=ev' x):c0m P o ev=c0m P o ev':=by
 unfold c0m
 split
 . rename_i c hop
   split
   . rename_i fo hcal
     rw[hev fo (by simp[hop,Op.operands,Call.operands,hcal])]
     rw[W08 (ev:=ev) (ev':=ev') (l:=c.args.toList) (λx hx=>hev x (by simp at hx; simp[hop,Op.operands,Call.operands,hx]))]
   . rename_i r name hcal
     rw[hev r (by simp[hop,Op.operands,Call.operands,hcal])]
     rw[W08 (ev:=ev) (ev':=ev') (l:=c.args.toList) (λx hx=>hev x (by simp at hx; simp[hop,Op.operands,Call.operands,hx]))]
   . rfl
 . rfl
theorem Z0k{sp:Bool}{o:Oper}{σ σ':St}{K K':St->View->Prop}(hev:∀x∈o.op.operands,σ.ev x=σ'.ev x)
 (hk:∀s V',V.le V'->V'.Fin->K (σ.put o.dst s) V'->K' (σ'.put o.dst s) V') (h:P0j P Shp sp o σ V K):P0j P Shp sp o σ' V K':=by
 revert h; unfold P0j
 rw[n0e hev]
 split
 . intro h
   exact h.mono' λv V' hle hfin hr=>E0a (λs hs=>S09 (λs' hs'=>hk s' V' hle hfin hs') hs) hr
 . exact id
theorem c0t{f:FuncId}{args:Array Value}{V V':View}{R:Value->View->Prop}(hle:V.le V')(h:a00 P f args V R) :
 a00 P f args V' λv V2=>∃V1,View.le V1 V2/\View.le V V1/\R v V1:=by
 intro w hw
 refine(h w (g0o hle hw)).mono λe w' ⟨v,V1,he,hl1,hin1,hf1,hb,hr⟩ => ?_
 let V2:View:=λi=>match V' i with|some cs=>some cs|none=>V1 i
 have hinV':V'.In w':=by
  intro b cs hb'
  obtain⟨T,fr,hwb⟩:=hw b cs hb'
  refine⟨T,fr,?_⟩
  rw[hb.block b (by
   rcases Nat.lt_or_ge b w.heap.size with h|h
   . exact h
   . rw[Array.getElem?_eq_none h]at hwb; simp at hwb)]
  exact hwb
 refine⟨v,V2,he,?_,?_,?_,hb,V1,?_,hl1,hr⟩
 . intro b cs hb'; simp[V2,hb']
 . intro b cs hb'
   simp only[V2]at hb'
   split at hb'
   . rename_i ds hd; cases hb'; exact hinV' b _ hd
   . exact hin1 b cs hb'
 . intro b cs hb'
   simp only[V2]at hb'
   split at hb'
   . rename_i ds hd; cases hb'; exact .inl hd
   . rename_i hd
     rcases hf1 b cs hb' with h1|h1
     . rw[hle b cs h1]at hd; simp at hd
     . exact .inr h1
 . intro b cs hb'
   simp only[V2]
   split
   . rename_i ds hd
     obtain⟨T,fr,h1⟩:=hinV' b ds hd
     obtain⟨T',fr',h2⟩:=hin1 b cs hb'
     rw[h1]at h2; simp at h2; simp[h2.1]
   . exact hb'
theorem q09{an:An}{o:Oper}(h:E04 P Shp ops an o σ V K) :
 (q02 ops o σ=some true/\actT P Shp an o σ V K)\/(q02 ops o σ=some false/\K (σ.put o.dst (.val undef)) V):=by
 unfold E04 at h
 split at h
 . rename_i hg; exact .inl ⟨hg,h⟩
 . rename_i hg; exact .inr ⟨hg,h⟩
 . exact h.elim
theorem k0b{an:An}{o:Oper}(hg:q02 ops o σ=some true)(h:actT P Shp an o σ V K):E04 P Shp ops an o σ V K:=by unfold E04; rw[hg]; exact h
theorem l07{an:An}{o:Oper}(hg:q02 ops o σ=some false)(h:K (σ.put o.dst (.val undef)) V):E04 P Shp ops an o σ V K:=by unfold E04; rw[hg]; exact h
theorem O0e{an:An}{o:Oper}(hcl:clsA an=1):actT P Shp an o σ V K=K0d P o σ V K:=by
 unfold actT
 split
 all_goals first
  | rfl
  | (rename_i h; simp[clsA,h]at hcl; done)
  | (simp[clsA]at hcl; split at hcl<;>simp_all)
theorem S0h{an:An}{o:Oper}(hcl:clsA an=2):actT P Shp an o σ V K=P0j P Shp an.sp o σ V K:=by
 unfold actT
 split
 all_goals first
  | rfl
  | (rename_i h; simp[clsA,h]at hcl; done)
  | (simp[clsA]at hcl; split at hcl<;>simp_all)
theorem G11{an:An}{o:Oper}(hcl:clsA an=5):actT P Shp an o σ V K=appT P an.rt o σ V K:=by
 unfold actT
 split
 all_goals first
  | rfl
  | (rename_i h; simp[clsA,h]at hcl; done)
  | (simp[clsA]at hcl; split at hcl<;>simp_all)
theorem N0w{an:An}{o:Oper}(hcl:clsA an=4):(∀σ V K,actT P Shp an o σ V K=i0b P o σ V K)\/(∀σ V K,actT P Shp an o σ V K=g0r P o σ V K):=by
 have h:an.fl=15\/an.fl=17:=by
  simp[clsA]at hcl; split at hcl<;>simp_all
 rcases h with h|h
 . exact .inl λσ V K=>by unfold actT; rw[h]; rfl
 . exact .inr λσ V K=>by unfold actT; rw[h]; rfl
theorem l0b{o:Oper}{x y:Operand}{e:TypeId}{sz bs:Nat}(h:appQ P o=some (x,y,e,sz,bs)):x∈o.op.operands/\y∈o.op.operands:=by
 obtain⟨t,i,z,hop,_⟩:=N0e h
 simp[hop,Op.operands,Call.operands]
theorem P0e{o:Oper}{σ σ':St}{K K':St->View->Prop}(hev:∀x∈o.op.operands,σ.ev x=σ'.ev x)
 (hk:∀s V',V.le V'->V'.Fin->K (σ.put o.dst s) V'->K' (σ'.put o.dst s) V') (h:i0b P o σ V K):i0b P o σ' V K':=by
 revert h; unfold i0b
 split
 . rename_i x y e sz bs hq
   obtain⟨h1,h2⟩:=l0b hq
   rw[hev x h1,hev y h2]
   split
   . rintro⟨e0,xs,vs,a1,a2,a3,a4,a5,a6,h⟩
     exact⟨e0,xs,vs,a1,a2,a3,a4,a5,a6,λra rc V' b1 b2 b3 b4 b5=>hk _ V' b1 b2 (h ra rc V' b1 b2 b3 b4 b5)⟩
   . exact id
 . exact id
theorem a0l{o:Oper}{σ σ':St}{K K':St->View->Prop}(hev:∀x∈o.op.operands,σ.ev x=σ'.ev x)
 (hk:∀s V',V.le V'->V'.Fin->K (σ.put o.dst s) V'->K' (σ'.put o.dst s) V') (h:g0r P o σ V K):g0r P o σ' V K':=by
 revert h; unfold g0r
 split
 . rename_i t n c hop
   rw[hev n (by simp[hop,Op.operands]),hev c (by simp[hop,Op.operands])]
   split
   . split
     . rintro⟨h1,h⟩
       refine⟨h1,?_⟩
       revert h
       split
       . intro h b V' b1 b2 b3; exact hk _ V' b1 b2 (h b V' b1 b2 b3)
       . exact id
     . exact id
   . exact id
 . exact id
theorem o0r{an:An}(hcl:clsA an=4){o:Oper}{σ σ':St}{K K':St->View->Prop}(hev:∀x∈o.op.operands,σ.ev x=σ'.ev x)
 (hk:∀s V',V.le V'->V'.Fin->K (σ.put o.dst s) V'->K' (σ'.put o.dst s) V') (h:actT P Shp an o σ V K):actT P Shp an o σ' V K':=by
 rcases N0w (P:=P) (Shp:=Shp) (o:=o) hcl with e|e
 . rw[e]at h ⊢; exact P0e hev hk h
 . rw[e]at h ⊢; exact a0l hev hk h
theorem p0r{σ:St}{id:Nat}(x:Operand):(σ.kill id).ev x=H05 id (σ.ev x):=by
 cases x with
 | tmp t =>
   simp only[St.ev,St.kill,List.getD,List.getElem?_map]
   cases σ.tm[t]?<;>rfl
 | const v=>rfl
 | global g=>rfl
 | func f=>rfl
theorem Q0g{ops:Array Oper}{o:Oper}{σ:St}{id:Nat}:q02 ops o (σ.kill id)=q02 ops o σ:=by
 unfold q02
 cases o.guard with
 | none=>rfl
 | some g =>
   obtain⟨j,want⟩:=g
   simp only[]
   cases (ops[j]?).bind (·.dst)with
   | none=>rfl
   | some t =>
     simp only[]
     have:(σ.kill id).tm.getD t .any=H05 id (σ.tm.getD t .any):=p0r (.tmp t)
     rw[this]
     cases σ.tm.getD t .any with
     | lst i n c=>by_cases e:i=id<;>simp[H05,e]
     | les i n c=>by_cases e:i=id<;>simp[H05,e]
     | tlst i n c r=>by_cases e:i=id<;>simp[H05,e]
     | _=>rfl
theorem l0t{σ:St}{id r:Nat}:(σ.kill id).own[r]?=(σ.own[r]?).map (L0e id):=by simp[St.kill]
theorem m0t{σ:St}{id:Nat}{d:Option Tmp}{s:SV}:(σ.put d s).kill id=(σ.kill id).put d (H05 id s):=by
 cases d with
 | none=>rfl
 | some t=>simp[St.put,St.kill,List.map_set]
theorem n0i{σ:St}{id r:Nat}{ob:Option OB}:(σ.setOwn r ob).kill id=(σ.kill id).setOwn r (L0e id ob):=by simp[St.setOwn,St.kill,List.map_set]
theorem O0w{id:Nat}{an:An}{o:Oper}{g:Option Bool}{ev:Operand->SV}{blk:Option (Option OB)}{s:SV}{ob:Option OB}(hb:l0i o an=true)(h:EA P Shp an o g ev blk V s ob) :
 EA P Shp an o g (λx=>H05 id (ev x)) (blk.map (L0e id)) V (H05 id s) (L0e id ob):=by
 cases g with
 | none=>exact h
 | some g =>
   cases g with
   | false =>
     obtain⟨rfl,h⟩:=h
     refine⟨rfl,?_⟩
     rcases h with rfl|rfl
     . exact .inl rfl
     . exact .inr rfl
   | true =>
     simp only[EA]at h ⊢
     unfold l0i at hb
     split at hb
     . rename_i hfl hsp hop
       unfold L08 at h ⊢
       rw[hfl]at h ⊢
       cases blk with
       | none=>simp[D04,hop]at h
       | some b =>
         simp only[D04,hop,hsp,fin,Option.map_some]at h ⊢
         split at h
         . rename_i he hq
           rw[he]
           simp only[H05,hq]
           obtain⟨rfl,rfl⟩:=h
           exact⟨rfl,rfl⟩
         . rename_i he hq
           rw[he]
           simp only[H05,hq]
           obtain⟨hpa,rfl,rfl⟩:=h
           exact⟨hpa,rfl,rfl⟩
         . exact h.elim
     . rename_i hfl hsp hop
       unfold L08 at h ⊢
       rw[hfl]at h ⊢
       cases blk with
       | none=>simp[D04,hop]at h
       | some b =>
         simp only[D04,hop,hsp,fin,Option.map_some]at h ⊢
         split at h
         . rename_i he hi
           rw[he,hi]
           simp only[H05]
           split at h
           . rename_i hE
             split at h
             . rename_i hZ
               obtain⟨h1,rfl,rfl⟩:=h
               exact⟨h1,rfl,rfl⟩
             . exact h.elim
           . exact h.elim
         . rename_i he hi
           rw[he,hi]
           simp only[H05]
           split at h
           . rename_i hE
             split at h
             . rename_i hZ
               obtain⟨h1,rfl,rfl⟩:=h
               exact⟨h1,rfl,rfl⟩
             . exact h.elim
           . exact h.elim
         . rename_i he hi
           rw[he,hi]
           simp only[H05]
           split at h
           . rename_i hE
             split at h
             . rename_i hZ
               obtain⟨h1,rfl,rfl⟩:=h
               exact⟨h1,rfl,rfl⟩
             . exact h.elim
           . exact h.elim
         . exact h.elim
     . rename_i hfl hsp hop
       unfold L08 at h ⊢
       rw[hfl]at h ⊢
       cases blk with
       | none=>simp[f07,hop]at h
       | some b =>
         simp only[f07,hop,hsp,fin,Option.map_some]at h ⊢
         split at h
         . rename_i he
           rw[he]
           simp only[H05]
           split at h
           . rename_i hA hZ
             obtain⟨x,h1,h2,h⟩:=h
             refine⟨x,h1,h2,?_⟩
             split at h
             . rename_i hv
               split at h
               . rename_i hq
                 obtain⟨rfl,rfl⟩:=h
                 exact⟨rfl,rfl⟩
               . exact h.elim
             . exact h.elim
           . rename_i hA
             obtain⟨x,h1,rfl,rfl⟩:=h
             exact⟨x,h1,rfl,rfl⟩
           . exact h.elim
         . exact h.elim
     . rename_i hfl hsp hop
       unfold L08 at h ⊢
       rw[hfl]at h ⊢
       simp only[n06,hop,hsp,fin]at h ⊢
       cases blk with
       | none=>exact h.elim
       | some b=>obtain⟨rfl,rfl⟩:=h; exact⟨rfl,rfl⟩
     . rename_i hfl hsp hop
       unfold L08 at h ⊢
       rw[hfl]at h ⊢
       simp only[n06,hop,hsp,fin]at h ⊢
       cases blk with
       | none=>exact h.elim
       | some b=>obtain⟨rfl,rfl⟩:=h; exact⟨rfl,rfl⟩
     . simp at hb
theorem Q12(hap:ox.apart ops oy=true)(hb:l0i oy ay=true)(hx:clsA ax=5)(hrt:ay.rt≠ax.rt)
 (h:E04 P Shp ops ay oy σ V λσ1 V1=>E04 P Shp ops ax ox σ1 V1 K):E04 P Shp ops ax ox σ V λσ1 V1=>E04 P Shp ops ay oy σ1 V1 K:=by
 have hy:clsA ay=0:=by
  unfold l0i at hb; unfold clsA
  split at hb
  . rename_i h _ _; rw[h]; rfl
  . rename_i h _ _; rw[h]; rfl
  . rename_i h _ _; rw[h]; rfl
  . rename_i h _ _; rw[h]; rfl
  . rename_i h _ _; rw[h]; rfl
  . simp at hb
 obtain⟨hdx,hdd,hdy⟩:=Oper.apart_spec hap
 obtain⟨sy,oby,hEy,h⟩:=x0o hy h
 have hev:∀x∈ox.op.operands,((σ.setOwn ay.rt oby).put oy.dst sy).ev x=σ.ev x:=λx hx=>by rw[D0a (s02 hdy x hx),n08]
 have hg:q02 ops ox ((σ.setOwn ay.rt oby).put oy.dst sy)=q02 ops ox σ:=by rw[s03 hdy,t04]
 rcases q09 h with⟨g,h⟩|⟨g,h⟩
 . rw[hg]at g
   refine k0b g ?_
   rw[G11 hx]at h ⊢
   unfold appT at h ⊢
   split at h
   . rename_i x y e sz bs hq
     obtain⟨m1,m2⟩:=l0b hq
     rw[hev x m1,hev y m2,o0a,B09 hrt]at h
     revert h
     split
     . split
       . rintro⟨xs,vs,a1,a2,a3,a4,a5,a6,h⟩
         refine⟨xs,vs,a1,a2,a3,a4,a5,a6,λcap' l' hok => ?_⟩
         have hk:=h cap' l' hok
         refine l0c hy (s:=H05 ax.rt sy) (ob:=L0e ax.rt oby) ?_ ?_
         . rw[s03 hdx,t04,Q0g,o0a,B09 (λe=>hrt e.symm),l0t]
           refine T09 (λx hx => ?_) (O0w hb hEy)
           rw[D0a (s02 hdx x hx),n08,p0r]
         . have e1:∀(X:SV) (L:Option OB),((((σ.kill ax.rt).setOwn ax.rt L).put ox.dst X).setOwn ay.rt (L0e ax.rt oby)).put oy.dst (H05 ax.rt sy) =
               ((((σ.setOwn ay.rt oby).put oy.dst sy).kill ax.rt).setOwn ax.rt L).put ox.dst X:=by
             intro X L
             rw[m0t,n0i,q05 (σ:=(σ.kill ax.rt).setOwn ax.rt L),q05 (σ:=(σ.kill ax.rt).setOwn ay.rt (L0e ax.rt oby)),A03 hdd,j0b hrt]
           rw[e1]; exact hk
       . exact λh=>h.elim
     . split
       . rintro⟨xs,vs,a1,a2,a3,a4,a5,a6,h⟩
         refine⟨xs,vs,a1,a2,a3,a4,a5,a6,λcap' l' hok => ?_⟩
         have hk:=h cap' l' hok
         refine l0c hy (s:=H05 ax.rt sy) (ob:=L0e ax.rt oby) ?_ ?_
         . rw[s03 hdx,t04,Q0g,o0a,B09 (λe=>hrt e.symm),l0t]
           refine T09 (λx hx => ?_) (O0w hb hEy)
           rw[D0a (s02 hdx x hx),n08,p0r]
         . have e1:∀(X:SV) (L:Option OB),((((σ.kill ax.rt).setOwn ax.rt L).put ox.dst X).setOwn ay.rt (L0e ax.rt oby)).put oy.dst (H05 ax.rt sy) =
               ((((σ.setOwn ay.rt oby).put oy.dst sy).kill ax.rt).setOwn ax.rt L).put ox.dst X:=by
             intro X L
             rw[m0t,n0i,q05 (σ:=(σ.kill ax.rt).setOwn ax.rt L),q05 (σ:=(σ.kill ax.rt).setOwn ay.rt (L0e ax.rt oby)),A03 hdd,j0b hrt]
           rw[e1]; exact hk
       . exact λh=>h.elim
     . exact λh=>h.elim
   . exact h.elim
 . rw[hg]at g
   refine l07 g (l0c hy (s:=sy) (ob:=oby) ?_ ?_)
   . rw[s03 hdx,o0a]
     exact T09 (λx hx=>by rw[D0a (s02 hdx x hx)]) hEy
   . rw[q05,A03 hdd]; exact h
theorem y0u{an:An}(hcl:clsA an=6):(∀o σ V K,actT P Shp an o σ V K=L0d P Shp an.sp an.rt o σ V K)\/(∀o σ V K,actT P Shp an o σ V K=Q0j P an.rt o σ V K)\/(∀o σ V K,actT P Shp an o σ V K=K0e P an.rt o σ V K):=by
 have h:an.fl=24\/an.fl=25\/an.fl=26:=by
  simp[clsA]at hcl; split at hcl<;>simp_all
 rcases h with h|h|h
 . exact .inl λo σ V K=>by unfold actT; rw[h]; rfl
 . exact .inr (.inl λo σ V K=>by unfold actT; rw[h]; rfl)
 . exact .inr (.inr λo σ V K=>by unfold actT; rw[h]; rfl)
theorem q0r{sp:Bool}{rt:Nat}{o:Oper}{σ σ':St}{K K':St->View->Prop}(hev:∀x∈o.op.operands,σ.ev x=σ'.ev x)(hown:σ.own[rt]?=σ'.own[rt]?)
 (hk:∀L s V',V.le V'->V'.Fin->K ((σ.setOwn rt L).put o.dst s) V'->K' ((σ'.setOwn rt L).put o.dst s) V') (h:L0d P Shp sp rt o σ V K):L0d P Shp sp rt o σ' V K':=by
 revert h; unfold L0d
 rw[n0e hev,hown]
 split
 . intro h; exact h.mono λv m' V' hle hfin r=>E0a (λs=>S09 λs=>hk _ s V' hle hfin) r
 . exact id
theorem z0u{rt:Nat}{o:Oper}{σ σ':St}{K K':St->View->Prop}(hev:∀x∈o.op.operands,σ.ev x=σ'.ev x)(hown:σ.own[rt]?=σ'.own[rt]?)
 (hk:∀L s,K ((σ.setOwn rt L).put o.dst s) V->K' ((σ'.setOwn rt L).put o.dst s) V) (h:Q0j P rt o σ V K):Q0j P rt o σ' V K':=by
 revert h; unfold Q0j
 rw[hown]
 split
 . rename_i x y e sz bs ty m hq hm
   obtain⟨h1,h2⟩:=l0b hq
   rw[hev x h1,hev y h2]
   split
   . rintro⟨xs,vs,a1,a2,a3,a4,a5,a6,a7,a8,h3,h4⟩
     exact⟨xs,vs,a1,a2,a3,a4,a5,a6,a7,a8,h3,λra rc m' g=>hk _ _ (h4 ra rc m' g)⟩
   . exact id
 . exact id
theorem o0i{rt:Nat}{o:Oper}{σ σ':St}{K K':St->View->Prop}(hev:∀x∈o.op.operands,σ.ev x=σ'.ev x)(hown:σ.own[rt]?=σ'.own[rt]?)
 (hk:∀L s,K ((σ.setOwn rt L).put o.dst s) V->K' ((σ'.setOwn rt L).put o.dst s) V) (h:K0e P rt o σ V K):K0e P rt o σ' V K':=by
 revert h; unfold K0e
 rw[hown]
 split
 . rename_i t n c hop
   rw[hev n (by simp[hop,Op.operands]),hev c (by simp[hop,Op.operands])]
   split
   . split
     . split
       . rintro⟨h1,h⟩
         refine⟨h1,?_⟩
         revert h
         split
         . intro h b b1 b2; exact hk _ _ (h b b1 b2)
         . exact id
       . exact id
     . exact id
   . exact id
 . exact id
theorem S12(hap:ox.apart ops oy=true)(hy:clsA ay=0)(hx:clsA ax=6)(hrt:ay.rt≠ax.rt)
 (h:E04 P Shp ops ay oy σ V λσ1 V1=>E04 P Shp ops ax ox σ1 V1 K):E04 P Shp ops ax ox σ V λσ1 V1=>E04 P Shp ops ay oy σ1 V1 K:=by
 obtain⟨hdx,hdd,hdy⟩:=Oper.apart_spec hap
 obtain⟨sy,oby,hEy,h⟩:=x0o hy h
 have hfin:∀L s V',V.le V'->K ((((σ.setOwn ay.rt oby).put oy.dst sy).setOwn ax.rt L).put ox.dst s) V'->E04 P Shp ops ay oy ((σ.setOwn ax.rt L).put ox.dst s) V' K:=by
  intro L s V' hle hk
  refine l0c hy (s:=sy) (ob:=oby) ?_ ?_
  . rw[s03 hdx,t04,o0a,B09 (λe=>hrt e.symm)]
    exact M0w hle (T09 (λx hx=>by rw[D0a (s02 hdx x hx),n08]) hEy)
  . have e1:(((σ.setOwn ax.rt L).put ox.dst s).setOwn ay.rt oby).put oy.dst sy=(((σ.setOwn ay.rt oby).put oy.dst sy).setOwn ax.rt L).put ox.dst s:=by
      rw[q05 (σ:=σ.setOwn ax.rt L),q05 (σ:=σ.setOwn ay.rt oby),A03 hdd,j0b hrt]
    rw[e1]; exact hk
 have hev:∀x∈ox.op.operands,((σ.setOwn ay.rt oby).put oy.dst sy).ev x=σ.ev x:=λx hx=>by rw[D0a (s02 hdy x hx),n08]
 have hown:((σ.setOwn ay.rt oby).put oy.dst sy).own[ax.rt]?=σ.own[ax.rt]?:=by rw[o0a,B09 hrt]
 have hg:q02 ops ox ((σ.setOwn ay.rt oby).put oy.dst sy)=q02 ops ox σ:=by rw[s03 hdy,t04]
 rcases q09 h with⟨g,h⟩|⟨g,h⟩
 . rw[hg]at g
   refine k0b g ?_
   rcases y0u (P:=P) (Shp:=Shp) hx with hx|hx|hx
   . rw[hx]at h ⊢; exact q0r hev hown (λL s V' hle _=>hfin L s V' hle) h
   . rw[hx]at h ⊢; exact z0u hev hown (λL s=>hfin L s V (View.le_refl V)) h
   . rw[hx]at h ⊢; exact o0i hev hown (λL s=>hfin L s V (View.le_refl V)) h
 . rw[hg]at g
   refine l07 g (l0c hy (s:=sy) (ob:=oby) ?_ ?_)
   . rw[s03 hdx,o0a]
     exact T09 (λx hx=>by rw[D0a (s02 hdx x hx)]) hEy
   . rw[q05,A03 hdd]; exact h
theorem P0w(hap:ox.apart ops oy=true)(hy:clsA ay=0)(hx:clsA ax=1\/clsA ax=2\/clsA ax=4)
 (h:E04 P Shp ops ay oy σ V λσ1 V1=>E04 P Shp ops ax ox σ1 V1 K):E04 P Shp ops ax ox σ V λσ1 V1=>E04 P Shp ops ay oy σ1 V1 K:=by
 obtain⟨hdx,hdd,hdy⟩:=Oper.apart_spec hap
 obtain⟨sy,oby,hEy,h⟩:=x0o hy h
 have hfin:∀s V',V.le V'->K (((σ.setOwn ay.rt oby).put oy.dst sy).put ox.dst s) V'->E04 P Shp ops ay oy (σ.put ox.dst s) V' K:=by
  intro s V' hle hk
  refine l0c hy (s:=sy) (ob:=oby) ?_ ?_
  . rw[s03 hdx,o0a]
    exact M0w hle (T09 (λx hx=>by rw[D0a (s02 hdx x hx)]) hEy)
  . rw[q05,A03 hdd]; exact hk
 have hev:∀x∈ox.op.operands,((σ.setOwn ay.rt oby).put oy.dst sy).ev x=σ.ev x:=λx hx=>by rw[D0a (s02 hdy x hx),n08]
 have hg:q02 ops ox ((σ.setOwn ay.rt oby).put oy.dst sy)=q02 ops ox σ:=by rw[s03 hdy,t04]
 rcases q09 h with⟨g,h⟩|⟨g,h⟩
 . rw[hg]at g
   refine k0b g ?_
   rcases hx with hx|hx|hx
   . rw[O0e hx]at h ⊢; exact m0i hev (λs V' hle _=>hfin s V' hle) h
   . rw[S0h hx]at h ⊢; exact Z0k hev (λs V' hle _=>hfin s V' hle) h
   . exact o0r hx hev (λs V' hle _=>hfin s V' hle) h
 . rw[hg]at g
   exact l07 g (hfin _ V (View.le_refl V) h)
theorem p0i{an:An}{o:Oper}(hcl:clsA an=1){σ':St}(hg:q02 ops o σ'=q02 ops o σ)(hev:∀x∈o.op.operands,σ'.ev x=σ.ev x)(h:E04 P Shp ops an o σ' V K) :
 (q02 ops o σ=some true/\∃cells n,G0e P o σ.ev=some (cells,n)/\∀(b:Nat) (V':View),V.le V'->V'.Fin->V' b=some cells->K (σ'.put o.dst (.val (.slice (some ⟨b,0,none⟩) n n))) V') \/
 (q02 ops o σ=some false/\K (σ'.put o.dst (.val undef)) V):=by
 rcases q09 h with⟨g,h⟩|⟨g,h⟩
 . rw[hg]at g
   rw[O0e hcl]at h
   unfold K0d at h
   rw[m08 hev]at h
   split at h
   . rename_i cells n hC; exact .inl ⟨g,cells,n,hC,h⟩
   . exact h.elim
 . rw[hg]at g
   exact .inr ⟨g,h⟩
theorem C09{an:An}{o:Oper}(hcl:clsA an=1)(hg:q02 ops o σ=some true){cells:Array Value}{n:Nat}(hC:G0e P o σ.ev=some (cells,n))
 (h:∀(b:Nat) (V':View),V.le V'->V'.Fin->V' b=some cells->K (σ.put o.dst (.val (.slice (some ⟨b,0,none⟩) n n))) V'):E04 P Shp ops an o σ V K:=by
 refine k0b hg ?_
 rw[O0e hcl]
 unfold K0d
 rw[hC]
 exact h
theorem View.Fin.more{V:View}(h:V.Fin)(cells:Array Value):∃b V',View.le V V'/\V'.Fin/\V' b=some cells:=by
 obtain⟨n,hn⟩:=h
 refine⟨n,λi=>if i=n then some cells else V i,M09 (hn n (Nat.le_refl n)),⟨n+1,λb hb => ?_⟩,by simp⟩
 have:b≠n:=by omega
 simp[this,hn b (by omega)]
theorem S10(hV:V.Fin)(hap:ox.apart ops oy=true)(hy:clsA ay=1\/clsA ay=2)(hx:clsA ax=1)
 (h:E04 P Shp ops ay oy σ V λσ1 V1=>E04 P Shp ops ax ox σ1 V1 K):E04 P Shp ops ax ox σ V λσ1 V1=>E04 P Shp ops ay oy σ1 V1 K:=by
 obtain⟨hdx,hdd,hdy⟩:=Oper.apart_spec hap
 have evx:∀s,∀x∈ox.op.operands,(σ.put oy.dst s).ev x=σ.ev x:=λs x hx=>D0a (s02 hdy x hx)
 have evy:∀s,∀x∈oy.op.operands,(σ.put ox.dst s).ev x=σ.ev x:=λs x hx=>D0a (s02 hdx x hx)
 have gx:∀s,q02 ops ox (σ.put oy.dst s)=q02 ops ox σ:=λs=>s03 hdy
 have gy:∀s,q02 ops oy (σ.put ox.dst s)=q02 ops oy σ:=λs=>s03 hdx
 rcases q09 h with⟨g,h⟩|⟨g,h⟩
 . rcases hy with hy|hy
   . rw[O0e hy]at h
     unfold K0d at h
     split at h
     . rename_i cy ny hCy
       obtain⟨b0,V0,hle0,hfin0,hb0⟩:=hV.more cy
       rcases p0i hx (gx _) (evx _) (h b0 V0 hle0 hfin0 hb0)with⟨gX,cx,nx,hCx,_⟩|⟨gX,_⟩
       . refine C09 hx gX hCx λb V' hle hfin hb => ?_
         refine C09 hy (by rw[gy]; exact g) (by rw[m08 (evy _)]; exact hCy) λb2 V2 hle2 hfin2 hb2 => ?_
         rcases p0i hx (gx _) (evx _) (h b2 V2 (View.le_trans hle hle2) hfin2 hb2)with⟨_,cx',nx',hCx',hk⟩|⟨gX',_⟩
         . rw[hCx]at hCx'; cases hCx'
           have:=hk b V2 (View.le_refl _) hfin2 (hle2 _ _ hb)
           rw[A03 hdd]; exact this
         . rw[gX]at gX'; cases gX'
       . refine l07 gX ?_
         refine C09 hy (by rw[gy]; exact g) (by rw[m08 (evy _)]; exact hCy) λb2 V2 hle2 hfin2 hb2 => ?_
         rcases p0i hx (gx _) (evx _) (h b2 V2 hle2 hfin2 hb2)with⟨gX',_⟩|⟨_,hk⟩
         . rw[gX]at gX'; cases gX'
         . rw[A03 hdd]; exact hk
     . exact h.elim
   . rw[S0h hy]at h
     unfold P0j at h
     split at h
     . rename_i f vs hq
       have hq':∀s,c0m P oy (σ.put ox.dst s).ev=some (f,vs):=λs=>by rw[n0e (evy s)]; exact hq
       obtain⟨v0,V0,hle0,hfin0,hr0⟩:=h.inst hV
       obtain⟨s0,hk0,_⟩:=Q10 (M0e hr0)
       have hcall:∀s V',V.le V'->V'.Fin->(∀s' V1 V2,V.le V1->V1.le V2->V'.le V2->V2.Fin->E04 P Shp ops ax ox (σ.put oy.dst s') V1 K->K ((σ.put ox.dst s).put oy.dst s') V2) ->
        E04 P Shp ops ay oy (σ.put ox.dst s) V' K:=by
        intro s V' hle hfin hK
        refine k0b (by rw[gy]; exact g) ?_
        rw[S0h hy]
        unfold P0j
        rw[hq' s]
        refine(c0t hle h).mono' λv V2 hle2 hfin2 ⟨V1,hl12,hl1,hr⟩ => ?_
        exact E0a (λs hs=>S09 (λs' hs'=>hK s' V1 V2 hl1 hl12 hle2 hfin2 hs') hs) hr
       rcases p0i hx (gx _) (evx _) hk0 with⟨gX,cx,nx,hCx,_⟩|⟨gX,_⟩
       . refine C09 hx gX hCx λb V' hle hfin hb=>hcall _ V' hle hfin λs' V1 V2 hl1 hl12 hl2 hfin2 hs => ?_
         rcases p0i hx (gx _) (evx _) hs with⟨_,cx',nx',hCx',hk⟩|⟨gX',_⟩
         . rw[hCx]at hCx'; cases hCx'
           have:=hk b V2 hl12 hfin2 (hl2 _ _ hb)
           rw[A03 hdd]; exact this
         . rw[gX]at gX'; cases gX'
       . refine l07 gX (k0b (by rw[gy]; exact g) ?_)
         rw[S0h hy]
         unfold P0j
         rw[hq' (.val undef)]
         refine h.mono' λv V1 hl1 hf1 hr=>E0a (λs hs=>S09 (λs' hs' => ?_) hs) hr
         rcases p0i hx (gx _) (evx _) hs' with⟨gX',_⟩|⟨_,hk⟩
         . rw[gX]at gX'; cases gX'
         . rw[A03 hdd]; exact hk
     . exact h.elim
 . rcases p0i hx (gx _) (evx _) h with⟨gX,cx,nx,hCx,hk⟩|⟨gX,hk⟩
   . refine C09 hx gX hCx λb V' hle hfin hb=>l07 (by rw[gy]; exact g) ?_
     rw[A03 hdd]; exact hk b V' hle hfin hb
   . refine l07 gX (l07 (by rw[gy]; exact g) ?_)
     rw[A03 hdd]; exact hk
end swap
