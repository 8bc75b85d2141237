/- Part. -/
import Derived.Test.YtjadnpidefnpoaaGreatVcE
namespace Go.Vc
open Go Go.RowKit
def wrA(an:An):Bool:=an.fl==3||an.fl==6||an.fl==16||an.fl==23
def clsA(an:An):Nat:=match an.fl with|10=>2|11=>1|13=>5|14=>3|15=>4|17=>4|18=>3|19=>3|21=>3|24=>6|25=>6|26=>6|_=>0
theorem p14{sp:Bool}{s:SV}{k:SV->Prop}(h:fin sp s k):∃s',k s'/\fin sp s (λt=>t=s'):=by
 revert h; unfold fin
 split
 . intro h; exact⟨_,h,rfl⟩
 . split
   . intro h; exact⟨_,h,rfl⟩
   . rename_i b
     intro h
     cases b with
     | true=>exact⟨_,h.1 rfl,⟨λ_=>rfl,by simp⟩⟩
     | false=>exact⟨_,h.2 rfl,⟨by simp,λ_=>rfl⟩⟩
   . intro h; exact h.elim
theorem D0c{sp:Bool}{s:SV}{k k':SV->Prop}(hk:∀s,k s->k' s)(h:fin sp s k):fin sp s k':=by
 revert h; unfold fin
 split
 . exact hk _
 . split
   . exact hk _
   . intro h; exact⟨λe=>hk _ (h.1 e),λe=>hk _ (h.2 e)⟩
   . exact id
def EA(P:Program)(Shp:m05)(an:An)(o:Oper)(g:Option Bool)(ev:Operand->SV)(blk:Option (Option OB))(V:View)(s:SV)(ob:Option OB):Prop :=
 match g with
 | some true=>q0a P Shp V an o ev blk λs0 ob0=>fin an.sp s0 (λs1=>s1=s)/\ob0=ob
 | some false=>s = .val undef/\(blk=some ob\/blk=none)
 | none=>False
theorem p0b{σ:St}{rt:Nat}{b:Option OB}(h:σ.own[rt]?=none):σ.setOwn rt b=σ:=by
 unfold St.setOwn
 congr 1
 have:σ.own.length<=rt:=by
  rcases Nat.lt_or_ge rt σ.own.length with h'|h'
  . rw[List.getElem?_eq_getElem h']at h; simp at h
  . exact h'
 exact List.set_eq_of_length_le this
theorem H0v{P:Program}{Shp an o σ V}{K:St->View->Prop}(hcl:clsA an=0) :
 actT P Shp an o σ V K=q0a P Shp V an o σ.ev σ.own[an.rt]? λs ob=>fin an.sp s λs=>K ((σ.setOwn an.rt ob).put o.dst s) V:=by
 unfold actT
 split
 all_goals first
  | rfl
  | (rename_i h; simp[clsA,h]at hcl; done)
theorem G0r{P:Program}{Shp ops an o σ V}{K:St->View->Prop}(hcl:clsA an=0)(h:F05 P Shp ops an o σ V K) :
 ∃s ob,EA P Shp an o (n03 ops o σ) σ.ev σ.own[an.rt]? V s ob/\K ((σ.setOwn an.rt ob).put o.dst s) V:=by
 unfold F05 at h
 split at h
 . rename_i hg
   rw[H0v hcl]at h
   obtain⟨s,ob,hk,hc⟩:=G0v h
   obtain⟨s',hk',hf⟩:=p14 hk
   refine⟨s',ob,?_,hk'⟩
   rw[hg]
   exact i0j (λs0 ob0 ⟨e1,e2⟩=>⟨by rw[e1]; exact hf,e2⟩) hc
 . rename_i hg
   cases hb:σ.own[an.rt]? with
   | none=>exact⟨.val undef,none,by rw[hg]; exact⟨rfl,.inr rfl⟩,by rw[p0b hb]; exact h⟩
   | some b=>exact⟨.val undef,b,by rw[hg]; exact⟨rfl,.inl rfl⟩,by rw[d00 hb]; exact h⟩
 . exact h.elim
theorem i0f{P:Program}{Shp ops an o σ V s ob}{K:St->View->Prop}(hcl:clsA an=0)(h:EA P Shp an o (n03 ops o σ) σ.ev σ.own[an.rt]? V s ob)
 (hk:K ((σ.setOwn an.rt ob).put o.dst s) V):F05 P Shp ops an o σ V K:=by
 unfold F05
 cases hg:n03 ops o σ with
 | none=>rw[hg]at h; exact h.elim
 | some g =>
   rw[hg]at h
   cases g with
   | true =>
     simp only[]
     rw[H0v hcl]
     refine i0j (λs0 ob0 ⟨h1,h2⟩ => ?_) h
     subst h2
     exact D0c (λs1 e=>by rw[e]; exact hk) h1
   | false =>
     simp only[]
     obtain⟨rfl,hb⟩:=h
     rcases hb with hb|hb
     . rw[d00 hb]at hk; exact hk
     . rw[p0b hb]at hk; exact hk
theorem u0z{P:Program}{Shp an o g ev blk V V' s ob}(hV:View.le V V')(h:EA P Shp an o g ev blk V s ob):EA P Shp an o g ev blk V' s ob:=by
 cases g with
 | none=>exact h
 | some g=>cases g with
   | true=>exact T0w hV h
   | false=>exact h
theorem E0c{P:Program}{Shp an o g ev ev' blk V s ob}(hev:∀x∈o.op.operands,ev x=ev' x)(h:EA P Shp an o g ev blk V s ob):EA P Shp an o g ev' blk V s ob:=by
 cases g with
 | none=>exact h
 | some g=>cases g with
   | true=>exact Y0t hev h
   | false=>exact h
theorem C0p{P:Program}{Shp an o g ev blk V s ob}(hw:wrA an=false)(h:EA P Shp an o g ev blk V s ob):blk=some ob\/blk=none:=by
 cases g with
 | none=>exact h.elim
 | some g=>cases g with
   | false=>exact h.2
   | true =>
     cases blk with
     | none=>exact .inr rfl
     | some b =>
       have h3:an.fl≠3:=by intro e; simp[wrA,e]at hw
       have h6:an.fl≠6:=by intro e; simp[wrA,e]at hw
       have h16:an.fl≠16:=by intro e; simp[wrA,e]at hw
       have h23:an.fl≠23:=by intro e; simp[wrA,e]at hw
       obtain⟨s0,ob0,⟨rfl,_,rfl⟩,_⟩:=G0v (U0w h3 h6 h16 h23 h)
       exact .inl rfl
theorem q0b{σ:St}{r r':Nat}{ob:Option OB}(h:r≠r'):(σ.setOwn r ob).own[r']?=σ.own[r']?:=by
 simp[St.setOwn,List.getElem?_set_ne h]
theorem W0c{σ:St}{d:Option Tmp}{s:SV}:(σ.put d s).own=σ.own:=by cases d<;>rfl
theorem w0d{σ:St}{d:Option Tmp}{s:SV}{x:Operand}(h:∀t,d=some t->x ≠ .tmp t):(σ.put d s).ev x=σ.ev x:=by
 cases d with
 | none=>rfl
 | some t =>
   cases x with
   | tmp u =>
     have hne:t≠u:=λe=>h t rfl (e▸rfl)
     simp[St.ev,St.put,List.getD,List.getElem?_set_ne hne]
   | const v=>rfl
   | global g=>rfl
   | func f=>rfl
theorem N09{σ:St}{r:Nat}{ob:Option OB}{x:Operand}:(σ.setOwn r ob).ev x=σ.ev x:=by cases x<;>rfl
theorem H04{ops:Array Oper}{o:Oper}{σ:St}{d:Option Tmp}{s:SV}(h:∀t,d=some t->t∉o.looksAt ops):n03 ops o (σ.put d s)=n03 ops o σ:=by
 unfold n03
 cases hg:o.guard with
 | none=>rfl
 | some g =>
   obtain⟨j,want⟩:=g
   simp only[]
   cases ht:(ops[j]?).bind (·.dst)with
   | none=>rfl
   | some t =>
     simp only[]
     cases d with
     | none=>rfl
     | some u =>
       have hne:u≠t:=by
        rintro rfl
        refine h u rfl ?_
        simp[Oper.looksAt,hg,ht]
       have:(σ.put (some u) s).tm.getD t .any=σ.tm.getD t .any:=by simp[St.put,List.getD,List.getElem?_set_ne hne]
       rw[this]
theorem x05{ops:Array Oper}{o:Oper}{σ:St}{r:Nat}{ob:Option OB}:n03 ops o (σ.setOwn r ob)=n03 ops o σ:=rfl
theorem o03{ops:Array Oper}{o:Oper}{d:Option Tmp}(h:∀t,d=some t->t∉o.looksAt ops):∀x∈o.op.operands,∀t,d=some t->x ≠ .tmp t:=by
 intro x hx t ht e
 refine h t ht ?_
 subst e
 simp only[Oper.looksAt,List.mem_append,List.mem_filterMap]
 exact .inl ⟨.tmp t,by simpa using hx,rfl⟩
theorem M04{σ:St}{d d':Option Tmp}{s s':SV}(h:∀t,d=some t->d'≠some t):(σ.put d s).put d' s'=(σ.put d' s').put d s:=by
 cases d with
 | none=>rfl
 | some t=>cases d' with
   | none=>rfl
   | some t' =>
     have hne:t≠t':=λe=>h t rfl (by rw[e])
     simp only[St.put]
     congr 1
     exact List.set_comm _ _ hne
theorem p06{σ:St}{r:Nat}{ob:Option OB}{d:Option Tmp}{s:SV}:(σ.put d s).setOwn r ob=(σ.setOwn r ob).put d s:=by cases d<;>rfl
theorem i0e{σ:St}{r r':Nat}{ob ob':Option OB}(h:r≠r'):(σ.setOwn r ob).setOwn r' ob'=(σ.setOwn r' ob').setOwn r ob:=by
 simp only[St.setOwn]
 congr 1
 exact List.set_comm _ _ h
def t0l(o:Oper)(an:An):Bool :=
 match an.fl,an.sp,o.op with
 | 7,false,.fieldAddr _ _ _=>true
 | 7,false,.indexAddr _ _ _=>true
 | 5,false,.load _ _=>true
 | 2,false,.move _=>true
 | 2,false,.assign _=>true
 | _,_,_=>false
def H0r(ops:Array Oper)(y x:Oper×An):Bool :=
 Oper.apart ops x.1 y.1 &&
 match clsA y.2,clsA x.2 with
 | 0,0 => !(Nat.beq y.2.rt x.2.rt)||(!wrA y.2 && !wrA x.2)
 | 0,1=>true
 | 1,1=>true
 | 2,1=>true
 | 0,2=>true
 | 0,4=>true
 | 0,5=>t0l y.1 y.2 && !(Nat.beq y.2.rt x.2.rt)
 | 0,6 => !(Nat.beq y.2.rt x.2.rt)
 | _,_=>false
section swap
variable {P:Program} {Shp:m05} {ops:Array Oper} {oy ox:Oper} {ay ax:An} {σ:St} {V:View} {K:St->View->Prop}
theorem p16(hap:ox.apart ops oy=true)(hy:clsA ay=0)(hx:clsA ax=0)(hrt:ay.rt≠ax.rt\/(wrA ay=false/\wrA ax=false))
 (h:F05 P Shp ops ay oy σ V λσ1 V1=>F05 P Shp ops ax ox σ1 V1 K):F05 P Shp ops ax ox σ V λσ1 V1=>F05 P Shp ops ay oy σ1 V1 K:=by
 obtain⟨hdx,hdd,hdy⟩:=Oper.apart_spec hap
 obtain⟨sy,oby,hEy,h⟩:=G0r hy h
 obtain⟨sx,obx,hEx,h⟩:=G0r hx h
 rw[H04 hdy,x05,W0c]at hEx
 have hEx:EA P Shp ax ox (n03 ops ox σ) σ.ev (σ.setOwn ay.rt oby).own[ax.rt]? V sx obx :=
  E0c (λx hx=>by rw[w0d (o03 hdy x hx),N09]) hEx
 have hown:(σ.setOwn ay.rt oby).own[ax.rt]?=σ.own[ax.rt]?:=by
  rcases hrt with h1|⟨h1,h2⟩
  . exact q0b h1
  . rcases C0p h1 hEy with e|e
    . rw[d00 e]
    . rw[p0b e]
 rw[hown]at hEx
 refine i0f hx hEx (i0f hy (s:=sy) (ob:=oby) ?_ ?_)
 . rw[H04 hdx,x05,W0c]
   have hown':(σ.setOwn ax.rt obx).own[ay.rt]?=σ.own[ay.rt]?:=by
    rcases hrt with h1|⟨h1,h2⟩
    . exact q0b (λe=>h1 e.symm)
    . rcases C0p h2 hEx with e|e
      . rw[d00 e]
      . rw[p0b e]
   rw[hown']
   exact E0c (λx hx=>by rw[w0d (o03 hdx x hx),N09]) hEy
 . have e:(((σ.setOwn ax.rt obx).put ox.dst sx).setOwn ay.rt oby).put oy.dst sy=(((σ.setOwn ay.rt oby).put oy.dst sy).setOwn ax.rt obx).put ox.dst sx:=by
     rw[p06,p06,M04 hdd]
     congr 2
     rcases hrt with h1|⟨h1,h2⟩
     . exact i0e (λe=>h1 e.symm)
     . have ey:=C0p h1 hEy
       have ex:=C0p h2 hEx
       have:∀ {r:Nat} {b:Option OB} {τ:St},(τ.own[r]?=some b\/τ.own[r]?=none)->τ.setOwn r b=τ:=by
        intro r b τ hh; rcases hh with hh|hh
        . exact d00 hh
        . exact p0b hh
       rw[this ex,this ey,this ex]
   rw[e]; exact h
theorem u0l{o:Oper}{σ σ':St}{K K':St->View->Prop}(hev:∀x∈o.op.operands,σ.ev x=σ'.ev x)
 (hk:∀s V',V.le V'->V'.Fin->K (σ.put o.dst s) V'->K' (σ'.put o.dst s) V') (h:E0g P o σ V K):E0g P o σ' V K':=by
 revert h; unfold E0g
 rw[M09 hev]
 split
 . intro h b V' hle hfin hb; exact hk _ _ hle hfin (h b V' hle hfin hb)
 . exact id
theorem x0d{ts:List TypeId}{v:Value}{k k':SV->Prop}(hk:∀s,k s->k' s)(h:resT Shp ts v k):resT Shp ts v k':=by
 revert h; unfold resT
 split
 . rintro⟨h1,h2⟩; exact⟨h1,hk _ h2⟩
 . rintro⟨x,h1,h2⟩; exact⟨x,h1,hk _ h2⟩
 . rintro⟨x,y,h1,h2⟩; exact⟨x,y,h1,hk _ h2⟩
 . rintro⟨x,y,z,h1,h2⟩; exact⟨x,y,z,h1,hk _ h2⟩
 . rintro⟨x,y,z,q,h1,h2⟩; exact⟨x,y,z,q,h1,hk _ h2⟩
 . exact id
theorem g0h{o:Oper}{ev ev':Operand->SV}(hev:∀x∈o.op.operands,ev x=ev' x):z0p P o ev=z0p P o ev':=by
 unfold z0p
 split
 . rename_i c hop
   split
   . rename_i fo hcal
     rw[hev fo (by simp[hop,Op.operands,Call.operands,hcal])]
     rw[E0a (ev:=ev) (ev':=ev') (l:=c.args.toList) (λx hx=>hev x (by simp at hx; simp[hop,Op.operands,Call.operands,hx]))]
   . rename_i r name hcal
     rw[hev r (by simp[hop,Op.operands,Call.operands,hcal])]
     rw[E0a (ev:=ev) (ev':=ev') (l:=c.args.toList) (λx hx=>hev x (by simp at hx; simp[hop,Op.operands,Call.operands,hx]))]
   . rfl
 . rfl
theorem o0o{sp:Bool}{o:Oper}{σ σ':St}{K K':St->View->Prop}(hev:∀x∈o.op.operands,σ.ev x=σ'.ev x)
 (hk:∀s V',V.le V'->V'.Fin->K (σ.put o.dst s) V'->K' (σ'.put o.dst s) V') (h:d0n P Shp sp o σ V K):d0n P Shp sp o σ' V K':=by
 revert h; unfold d0n
 rw[g0h hev]
 split
 . intro h
   exact h.mono' λv V' hle hfin hr=>x0d (λs hs=>D0c (λs' hs'=>hk s' V' hle hfin hs') hs) hr
 . exact id
theorem C0v{f:FuncId}{args:Array Value}{V V':View}{R:Value->View->Prop}(hle:V.le V')(h:a00 P f args V R) :
 a00 P f args V' λv V2=>∃V1,View.le V1 V2/\View.le V V1/\R v V1:=by
 intro w hw
 refine(h w (t0r hle hw)).mono λe w' ⟨v,V1,he,hl1,hin1,hf1,hb,hr⟩ => ?_
 let V2:View:=λi=>match V' i with|some cs=>some cs|none=>V1 i
 have hinV':V'.In w':=by
  intro b cs hb'
  obtain⟨T,fr,hwb⟩:=hw b cs hb'
  refine⟨T,fr,?_⟩
  rw[hb.block b (by
   rcases Nat.lt_or_ge b w.heap.size with h|h
   . exact h
   . rw[Array.getElem?_eq_none h]at hwb; simp at hwb)]
  exact hwb
 refine⟨v,V2,he,?_,?_,?_,hb,V1,?_,hl1,hr⟩
 . intro b cs hb'; simp[V2,hb']
 . intro b cs hb'
   simp only[V2]at hb'
   split at hb'
   . rename_i ds hd; cases hb'; exact hinV' b _ hd
   . exact hin1 b cs hb'
 . intro b cs hb'
   simp only[V2]at hb'
   split at hb'
   . rename_i ds hd; cases hb'; exact .inl hd
   . rename_i hd
     rcases hf1 b cs hb' with h1|h1
     . rw[hle b cs h1]at hd; simp at hd
     . exact .inr h1
 . intro b cs hb'
   simp only[V2]
   split
   . rename_i ds hd
     obtain⟨T,fr,h1⟩:=hinV' b ds hd
     obtain⟨T',fr',h2⟩:=hin1 b cs hb'
     rw[h1]at h2; simp at h2; simp[h2.1]
   . exact hb'
theorem g0b{an:An}{o:Oper}(h:F05 P Shp ops an o σ V K) :
 (n03 ops o σ=some true/\actT P Shp an o σ V K)\/(n03 ops o σ=some false/\K (σ.put o.dst (.val undef)) V):=by
 unfold F05 at h
 split at h
 . rename_i hg; exact .inl ⟨hg,h⟩
 . rename_i hg; exact .inr ⟨hg,h⟩
 . exact h.elim
theorem j0e{an:An}{o:Oper}(hg:n03 ops o σ=some true)(h:actT P Shp an o σ V K):F05 P Shp ops an o σ V K:=by unfold F05; rw[hg]; exact h
theorem I08{an:An}{o:Oper}(hg:n03 ops o σ=some false)(h:K (σ.put o.dst (.val undef)) V):F05 P Shp ops an o σ V K:=by unfold F05; rw[hg]; exact h
theorem O0h{an:An}{o:Oper}(hcl:clsA an=1):actT P Shp an o σ V K=E0g P o σ V K:=by
 unfold actT
 split
 all_goals first
  | rfl
  | (rename_i h; simp[clsA,h]at hcl; done)
  | (simp[clsA]at hcl; split at hcl<;>simp_all)
theorem S0k{an:An}{o:Oper}(hcl:clsA an=2):actT P Shp an o σ V K=d0n P Shp an.sp o σ V K:=by
 unfold actT
 split
 all_goals first
  | rfl
  | (rename_i h; simp[clsA,h]at hcl; done)
  | (simp[clsA]at hcl; split at hcl<;>simp_all)
theorem d15{an:An}{o:Oper}(hcl:clsA an=5):actT P Shp an o σ V K=appT P an.rt o σ V K:=by
 unfold actT
 split
 all_goals first
  | rfl
  | (rename_i h; simp[clsA,h]at hcl; done)
  | (simp[clsA]at hcl; split at hcl<;>simp_all)
theorem w0z{an:An}{o:Oper}(hcl:clsA an=4):(∀σ V K,actT P Shp an o σ V K=g0e P o σ V K)\/(∀σ V K,actT P Shp an o σ V K=Q0t P o σ V K):=by
 have h:an.fl=15\/an.fl=17:=by
  simp[clsA]at hcl; split at hcl<;>simp_all
 rcases h with h|h
 . exact .inl λσ V K=>by unfold actT; rw[h]; rfl
 . exact .inr λσ V K=>by unfold actT; rw[h]; rfl
theorem k0e{o:Oper}{x y:Operand}{e:TypeId}{sz bs:Nat}(h:appQ P o=some (x,y,e,sz,bs)):x∈o.op.operands/\y∈o.op.operands:=by
 obtain⟨t,i,z,hop,_⟩:=N0h h
 simp[hop,Op.operands,Call.operands]
theorem P0h{o:Oper}{σ σ':St}{K K':St->View->Prop}(hev:∀x∈o.op.operands,σ.ev x=σ'.ev x)
 (hk:∀s V',V.le V'->V'.Fin->K (σ.put o.dst s) V'->K' (σ'.put o.dst s) V') (h:g0e P o σ V K):g0e P o σ' V K':=by
 revert h; unfold g0e
 split
 . rename_i x y e sz bs hq
   obtain⟨h1,h2⟩:=k0e hq
   rw[hev x h1,hev y h2]
   split
   . rintro⟨e0,xs,vs,a1,a2,a3,a4,a5,a6,h⟩
     exact⟨e0,xs,vs,a1,a2,a3,a4,a5,a6,λra rc V' b1 b2 b3 b4 b5=>hk _ V' b1 b2 (h ra rc V' b1 b2 b3 b4 b5)⟩
   . exact id
 . exact id
theorem q0o{o:Oper}{σ σ':St}{K K':St->View->Prop}(hev:∀x∈o.op.operands,σ.ev x=σ'.ev x)
 (hk:∀s V',V.le V'->V'.Fin->K (σ.put o.dst s) V'->K' (σ'.put o.dst s) V') (h:Q0t P o σ V K):Q0t P o σ' V K':=by
 revert h; unfold Q0t
 split
 . rename_i t n c hop
   rw[hev n (by simp[hop,Op.operands]),hev c (by simp[hop,Op.operands])]
   split
   . split
     . rintro⟨h1,h⟩
       refine⟨h1,?_⟩
       revert h
       split
       . intro h b V' b1 b2 b3; exact hk _ V' b1 b2 (h b V' b1 b2 b3)
       . exact id
     . exact id
   . exact id
 . exact id
theorem Z0t{an:An}(hcl:clsA an=4){o:Oper}{σ σ':St}{K K':St->View->Prop}(hev:∀x∈o.op.operands,σ.ev x=σ'.ev x)
 (hk:∀s V',V.le V'->V'.Fin->K (σ.put o.dst s) V'->K' (σ'.put o.dst s) V') (h:actT P Shp an o σ V K):actT P Shp an o σ' V K':=by
 rcases w0z (P:=P) (Shp:=Shp) (o:=o) hcl with e|e
 . rw[e]at h ⊢; exact P0h hev hk h
 . rw[e]at h ⊢; exact q0o hev hk h
theorem a0u{σ:St}{id:Nat}(x:Operand):(σ.kill id).ev x=z06 id (σ.ev x):=by
 cases x with
 | tmp t =>
   simp only[St.ev,St.kill,List.getD,List.getElem?_map]
   cases σ.tm[t]?<;>rfl
 | const v=>rfl
 | global g=>rfl
 | func f=>rfl
theorem P0j{ops:Array Oper}{o:Oper}{σ:St}{id:Nat}:n03 ops o (σ.kill id)=n03 ops o σ:=by
 unfold n03
 cases o.guard with
 | none=>rfl
 | some g =>
   obtain⟨j,want⟩:=g
   simp only[]
   cases (ops[j]?).bind (·.dst)with
   | none=>rfl
   | some t =>
     simp only[]
     have:(σ.kill id).tm.getD t .any=z06 id (σ.tm.getD t .any):=a0u (.tmp t)
     rw[this]
     cases σ.tm.getD t .any with
     | lst i n c=>by_cases e:i=id<;>simp[z06,e]
     | les i n c=>by_cases e:i=id<;>simp[z06,e]
     | tlst i n c r=>by_cases e:i=id<;>simp[z06,e]
     | _=>rfl
theorem I0v{σ:St}{id r:Nat}:(σ.kill id).own[r]?=(σ.own[r]?).map (L0h id):=by simp[St.kill]
theorem J0v{σ:St}{id:Nat}{d:Option Tmp}{s:SV}:(σ.put d s).kill id=(σ.kill id).put d (z06 id s):=by
 cases d with
 | none=>rfl
 | some t=>simp[St.put,St.kill,List.map_set]
theorem w0l{σ:St}{id r:Nat}{ob:Option OB}:(σ.setOwn r ob).kill id=(σ.kill id).setOwn r (L0h id ob):=by simp[St.setOwn,St.kill,List.map_set]
theorem x0z{id:Nat}{an:An}{o:Oper}{g:Option Bool}{ev:Operand->SV}{blk:Option (Option OB)}{s:SV}{ob:Option OB}(hb:t0l o an=true)(h:EA P Shp an o g ev blk V s ob) :
 EA P Shp an o g (λx=>z06 id (ev x)) (blk.map (L0h id)) V (z06 id s) (L0h id ob):=by
 cases g with
 | none=>exact h
 | some g =>
   cases g with
   | false =>
     obtain⟨rfl,h⟩:=h
     refine⟨rfl,?_⟩
     rcases h with rfl|rfl
     . exact .inl rfl
     . exact .inr rfl
   | true =>
     simp only[EA]at h ⊢
     unfold t0l at hb
     split at hb
     . rename_i hfl hsp hop
       unfold q0a at h ⊢
       rw[hfl]at h ⊢
       cases blk with
       | none=>simp[E05,hop]at h
       | some b =>
         simp only[E05,hop,hsp,fin,Option.map_some]at h ⊢
         split at h
         . rename_i he hq
           rw[he]
           simp only[z06,hq]
           obtain⟨rfl,rfl⟩:=h
           exact⟨rfl,rfl⟩
         . rename_i he hq
           rw[he]
           simp only[z06,hq]
           obtain⟨hpa,rfl,rfl⟩:=h
           exact⟨hpa,rfl,rfl⟩
         . exact h.elim
     . rename_i hfl hsp hop
       unfold q0a at h ⊢
       rw[hfl]at h ⊢
       cases blk with
       | none=>simp[E05,hop]at h
       | some b =>
         simp only[E05,hop,hsp,fin,Option.map_some]at h ⊢
         split at h
         . rename_i he hi
           rw[he,hi]
           simp only[z06]
           split at h
           . rename_i hE
             split at h
             . rename_i hZ
               obtain⟨h1,rfl,rfl⟩:=h
               exact⟨h1,rfl,rfl⟩
             . exact h.elim
           . exact h.elim
         . rename_i he hi
           rw[he,hi]
           simp only[z06]
           split at h
           . rename_i hE
             split at h
             . rename_i hZ
               obtain⟨h1,rfl,rfl⟩:=h
               exact⟨h1,rfl,rfl⟩
             . exact h.elim
           . exact h.elim
         . rename_i he hi
           rw[he,hi]
           simp only[z06]
           split at h
           . rename_i hE
             split at h
             . rename_i hZ
               obtain⟨h1,rfl,rfl⟩:=h
               exact⟨h1,rfl,rfl⟩
             . exact h.elim
           . exact h.elim
         . rename_i he hi
           rw[he,hi]
           simp only[z06]
           split at h
           . rename_i hE
             split at h
             . rename_i hZ
               obtain⟨h1,rfl,rfl⟩:=h
               exact⟨h1,rfl,rfl⟩
             . exact h.elim
           . exact h.elim
         . exact h.elim
     . rename_i hfl hsp hop
       unfold q0a at h ⊢
       rw[hfl]at h ⊢
       cases blk with
       | none=>simp[E08,hop]at h
       | some b =>
         simp only[E08,hop,hsp,fin,Option.map_some]at h ⊢
         split at h
         . rename_i he
           rw[he]
           simp only[z06]
           split at h
           . rename_i hA hZ
             obtain⟨x,h1,h2,h⟩:=h
             refine⟨x,h1,h2,?_⟩
             split at h
             . rename_i hv
               split at h
               . rename_i hq
                 obtain⟨rfl,rfl⟩:=h
                 exact⟨rfl,rfl⟩
               . exact h.elim
             . exact h.elim
           . rename_i hA
             obtain⟨x,h1,rfl,rfl⟩:=h
             exact⟨x,h1,rfl,rfl⟩
           . exact h.elim
         . exact h.elim
     . rename_i hfl hsp hop
       unfold q0a at h ⊢
       rw[hfl]at h ⊢
       simp only[D07,hop,hsp,fin]at h ⊢
       cases blk with
       | none=>exact h.elim
       | some b=>obtain⟨rfl,rfl⟩:=h; exact⟨rfl,rfl⟩
     . rename_i hfl hsp hop
       unfold q0a at h ⊢
       rw[hfl]at h ⊢
       simp only[D07,hop,hsp,fin]at h ⊢
       cases blk with
       | none=>exact h.elim
       | some b=>obtain⟨rfl,rfl⟩:=h; exact⟨rfl,rfl⟩
     . simp at hb
theorem q16(hap:ox.apart ops oy=true)(hb:t0l oy ay=true)(hx:clsA ax=5)(hrt:ay.rt≠ax.rt)
 (h:F05 P Shp ops ay oy σ V λσ1 V1=>F05 P Shp ops ax ox σ1 V1 K):F05 P Shp ops ax ox σ V λσ1 V1=>F05 P Shp ops ay oy σ1 V1 K:=by
 have hy:clsA ay=0:=by
  unfold t0l at hb; unfold clsA
  split at hb
  . rename_i h _ _; rw[h]; rfl
  . rename_i h _ _; rw[h]; rfl
  . rename_i h _ _; rw[h]; rfl
  . rename_i h _ _; rw[h]; rfl
  . rename_i h _ _; rw[h]; rfl
  . simp at hb
 obtain⟨hdx,hdd,hdy⟩:=Oper.apart_spec hap
 obtain⟨sy,oby,hEy,h⟩:=G0r hy h
 have hev:∀x∈ox.op.operands,((σ.setOwn ay.rt oby).put oy.dst sy).ev x=σ.ev x:=λx hx=>by rw[w0d (o03 hdy x hx),N09]
 have hg:n03 ops ox ((σ.setOwn ay.rt oby).put oy.dst sy)=n03 ops ox σ:=by rw[H04 hdy,x05]
 rcases g0b h with⟨g,h⟩|⟨g,h⟩
 . rw[hg]at g
   refine j0e g ?_
   rw[d15 hx]at h ⊢
   unfold appT at h ⊢
   split at h
   . rename_i x y e sz bs hq
     obtain⟨m1,m2⟩:=k0e hq
     rw[hev x m1,hev y m2,W0c,q0b hrt]at h
     revert h
     split
     . split
       . rintro⟨xs,vs,a1,a2,a3,a4,a5,a6,h⟩
         refine⟨xs,vs,a1,a2,a3,a4,a5,a6,λcap' l' hok => ?_⟩
         have hk:=h cap' l' hok
         refine i0f hy (s:=z06 ax.rt sy) (ob:=L0h ax.rt oby) ?_ ?_
         . rw[H04 hdx,x05,P0j,W0c,q0b (λe=>hrt e.symm),I0v]
           refine E0c (λx hx => ?_) (x0z hb hEy)
           rw[w0d (o03 hdx x hx),N09,a0u]
         . have e1:∀(X:SV) (L:Option OB),((((σ.kill ax.rt).setOwn ax.rt L).put ox.dst X).setOwn ay.rt (L0h ax.rt oby)).put oy.dst (z06 ax.rt sy) =
               ((((σ.setOwn ay.rt oby).put oy.dst sy).kill ax.rt).setOwn ax.rt L).put ox.dst X:=by
             intro X L
             rw[J0v,w0l,p06 (σ:=(σ.kill ax.rt).setOwn ax.rt L),p06 (σ:=(σ.kill ax.rt).setOwn ay.rt (L0h ax.rt oby)),M04 hdd,i0e hrt]
           rw[e1]; exact hk
       . exact λh=>h.elim
     . split
       . rintro⟨xs,vs,a1,a2,a3,a4,a5,a6,h⟩
         refine⟨xs,vs,a1,a2,a3,a4,a5,a6,λcap' l' hok => ?_⟩
         have hk:=h cap' l' hok
         refine i0f hy (s:=z06 ax.rt sy) (ob:=L0h ax.rt oby) ?_ ?_
         . rw[H04 hdx,x05,P0j,W0c,q0b (λe=>hrt e.symm),I0v]
           refine E0c (λx hx => ?_) (x0z hb hEy)
           rw[w0d (o03 hdx x hx),N09,a0u]
         . have e1:∀(X:SV) (L:Option OB),((((σ.kill ax.rt).setOwn ax.rt L).put ox.dst X).setOwn ay.rt (L0h ax.rt oby)).put oy.dst (z06 ax.rt sy) =
               ((((σ.setOwn ay.rt oby).put oy.dst sy).kill ax.rt).setOwn ax.rt L).put ox.dst X:=by
             intro X L
             rw[J0v,w0l,p06 (σ:=(σ.kill ax.rt).setOwn ax.rt L),p06 (σ:=(σ.kill ax.rt).setOwn ay.rt (L0h ax.rt oby)),M04 hdd,i0e hrt]
           rw[e1]; exact hk
       . exact λh=>h.elim
     . exact λh=>h.elim
   . exact h.elim
 . rw[hg]at g
   refine I08 g (i0f hy (s:=sy) (ob:=oby) ?_ ?_)
   . rw[H04 hdx,W0c]
     exact E0c (λx hx=>by rw[w0d (o03 hdx x hx)]) hEy
   . rw[p06,M04 hdd]; exact h
theorem b0x{an:An}(hcl:clsA an=6):(∀o σ V K,actT P Shp an o σ V K=F0g P Shp an.sp an.rt o σ V K)\/(∀o σ V K,actT P Shp an o σ V K=e0n P an.rt o σ V K)\/(∀o σ V K,actT P Shp an o σ V K=K0h P an.rt o σ V K):=by
 have h:an.fl=24\/an.fl=25\/an.fl=26:=by
  simp[clsA]at hcl; split at hcl<;>simp_all
 rcases h with h|h|h
 . exact .inl λo σ V K=>by unfold actT; rw[h]; rfl
 . exact .inr (.inl λo σ V K=>by unfold actT; rw[h]; rfl)
 . exact .inr (.inr λo σ V K=>by unfold actT; rw[h]; rfl)
theorem b0u{sp:Bool}{rt:Nat}{o:Oper}{σ σ':St}{K K':St->View->Prop}(hev:∀x∈o.op.operands,σ.ev x=σ'.ev x)(hown:σ.own[rt]?=σ'.own[rt]?)
 (hk:∀L s V',V.le V'->V'.Fin->K ((σ.setOwn rt L).put o.dst s) V'->K' ((σ'.setOwn rt L).put o.dst s) V') (h:F0g P Shp sp rt o σ V K):F0g P Shp sp rt o σ' V K':=by
 revert h; unfold F0g
 rw[g0h hev,hown]
 split
 . intro h; exact h.mono λv m' V' hle hfin r=>x0d (λs=>D0c λs=>hk _ s V' hle hfin) r
 . exact id
theorem c0x{rt:Nat}{o:Oper}{σ σ':St}{K K':St->View->Prop}(hev:∀x∈o.op.operands,σ.ev x=σ'.ev x)(hown:σ.own[rt]?=σ'.own[rt]?)
 (hk:∀L s,K ((σ.setOwn rt L).put o.dst s) V->K' ((σ'.setOwn rt L).put o.dst s) V) (h:e0n P rt o σ V K):e0n P rt o σ' V K':=by
 revert h; unfold e0n
 rw[hown]
 split
 . rename_i x y e sz bs ty m hq hm
   obtain⟨h1,h2⟩:=k0e hq
   rw[hev x h1,hev y h2]
   split
   . rintro⟨xs,vs,a1,a2,a3,a4,a5,a6,a7,a8,h3,h4⟩
     exact⟨xs,vs,a1,a2,a3,a4,a5,a6,a7,a8,h3,λra rc m' g=>hk _ _ (h4 ra rc m' g)⟩
   . exact id
 . exact id
theorem x0l{rt:Nat}{o:Oper}{σ σ':St}{K K':St->View->Prop}(hev:∀x∈o.op.operands,σ.ev x=σ'.ev x)(hown:σ.own[rt]?=σ'.own[rt]?)
 (hk:∀L s,K ((σ.setOwn rt L).put o.dst s) V->K' ((σ'.setOwn rt L).put o.dst s) V) (h:K0h P rt o σ V K):K0h P rt o σ' V K':=by
 revert h; unfold K0h
 rw[hown]
 split
 . rename_i t n c hop
   rw[hev n (by simp[hop,Op.operands]),hev c (by simp[hop,Op.operands])]
   split
   . split
     . split
       . rintro⟨h1,h⟩
         refine⟨h1,?_⟩
         revert h
         split
         . intro h b b1 b2; exact hk _ _ (h b b1 b2)
         . exact id
       . exact id
     . exact id
   . exact id
 . exact id
theorem s16(hap:ox.apart ops oy=true)(hy:clsA ay=0)(hx:clsA ax=6)(hrt:ay.rt≠ax.rt)
 (h:F05 P Shp ops ay oy σ V λσ1 V1=>F05 P Shp ops ax ox σ1 V1 K):F05 P Shp ops ax ox σ V λσ1 V1=>F05 P Shp ops ay oy σ1 V1 K:=by
 obtain⟨hdx,hdd,hdy⟩:=Oper.apart_spec hap
 obtain⟨sy,oby,hEy,h⟩:=G0r hy h
 have hfin:∀L s V',V.le V'->K ((((σ.setOwn ay.rt oby).put oy.dst sy).setOwn ax.rt L).put ox.dst s) V'->F05 P Shp ops ay oy ((σ.setOwn ax.rt L).put ox.dst s) V' K:=by
  intro L s V' hle hk
  refine i0f hy (s:=sy) (ob:=oby) ?_ ?_
  . rw[H04 hdx,x05,W0c,q0b (λe=>hrt e.symm)]
    exact u0z hle (E0c (λx hx=>by rw[w0d (o03 hdx x hx),N09]) hEy)
  . have e1:(((σ.setOwn ax.rt L).put ox.dst s).setOwn ay.rt oby).put oy.dst sy=(((σ.setOwn ay.rt oby).put oy.dst sy).setOwn ax.rt L).put ox.dst s:=by
      rw[p06 (σ:=σ.setOwn ax.rt L),p06 (σ:=σ.setOwn ay.rt oby),M04 hdd,i0e hrt]
    rw[e1]; exact hk
 have hev:∀x∈ox.op.operands,((σ.setOwn ay.rt oby).put oy.dst sy).ev x=σ.ev x:=λx hx=>by rw[w0d (o03 hdy x hx),N09]
 have hown:((σ.setOwn ay.rt oby).put oy.dst sy).own[ax.rt]?=σ.own[ax.rt]?:=by rw[W0c,q0b hrt]
 have hg:n03 ops ox ((σ.setOwn ay.rt oby).put oy.dst sy)=n03 ops ox σ:=by rw[H04 hdy,x05]
 rcases g0b h with⟨g,h⟩|⟨g,h⟩
 . rw[hg]at g
   refine j0e g ?_
   rcases b0x (P:=P) (Shp:=Shp) hx with hx|hx|hx
   . rw[hx]at h ⊢; exact b0u hev hown (λL s V' hle _=>hfin L s V' hle) h
   . rw[hx]at h ⊢; exact c0x hev hown (λL s=>hfin L s V (View.le_refl V)) h
   . rw[hx]at h ⊢; exact x0l hev hown (λL s=>hfin L s V (View.le_refl V)) h
 . rw[hg]at g
   refine I08 g (i0f hy (s:=sy) (ob:=oby) ?_ ?_)
   . rw[H04 hdx,W0c]
     exact E0c (λx hx=>by rw[w0d (o03 hdx x hx)]) hEy
   . rw[p06,M04 hdd]; exact h
theorem y0z(hap:ox.apart ops oy=true)(hy:clsA ay=0)(hx:clsA ax=1\/clsA ax=2\/clsA ax=4)
 (h:F05 P Shp ops ay oy σ V λσ1 V1=>F05 P Shp ops ax ox σ1 V1 K):F05 P Shp ops ax ox σ V λσ1 V1=>F05 P Shp ops ay oy σ1 V1 K:=by
 obtain⟨hdx,hdd,hdy⟩:=Oper.apart_spec hap
 obtain⟨sy,oby,hEy,h⟩:=G0r hy h
 have hfin:∀s V',V.le V'->K (((σ.setOwn ay.rt oby).put oy.dst sy).put ox.dst s) V'->F05 P Shp ops ay oy (σ.put ox.dst s) V' K:=by
  intro s V' hle hk
  refine i0f hy (s:=sy) (ob:=oby) ?_ ?_
  . rw[H04 hdx,W0c]
    exact u0z hle (E0c (λx hx=>by rw[w0d (o03 hdx x hx)]) hEy)
  . rw[p06,M04 hdd]; exact hk
 have hev:∀x∈ox.op.operands,((σ.setOwn ay.rt oby).put oy.dst sy).ev x=σ.ev x:=λx hx=>by rw[w0d (o03 hdy x hx),N09]
 have hg:n03 ops ox ((σ.setOwn ay.rt oby).put oy.dst sy)=n03 ops ox σ:=by rw[H04 hdy,x05]
 rcases g0b h with⟨g,h⟩|⟨g,h⟩
 . rw[hg]at g
   refine j0e g ?_
   rcases hx with hx|hx|hx
   . rw[O0h hx]at h ⊢; exact u0l hev (λs V' hle _=>hfin s V' hle) h
   . rw[S0k hx]at h ⊢; exact o0o hev (λs V' hle _=>hfin s V' hle) h
   . exact Z0t hx hev (λs V' hle _=>hfin s V' hle) h
 . rw[hg]at g
   exact I08 g (hfin _ V (View.le_refl V) h)
theorem y0l{an:An}{o:Oper}(hcl:clsA an=1){σ':St}(hg:n03 ops o σ'=n03 ops o σ)(hev:∀x∈o.op.operands,σ'.ev x=σ.ev x)(h:F05 P Shp ops an o σ' V K) :
 (n03 ops o σ=some true/\∃cells n,G0h P o σ.ev=some (cells,n)/\∀(b:Nat) (V':View),V.le V'->V'.Fin->V' b=some cells->K (σ'.put o.dst (.val (.slice (some ⟨b,0,none⟩) n n))) V') \/
 (n03 ops o σ=some false/\K (σ'.put o.dst (.val undef)) V):=by
 rcases g0b h with⟨g,h⟩|⟨g,h⟩
 . rw[hg]at g
   rw[O0h hcl]at h
   unfold E0g at h
   rw[M09 hev]at h
   split at h
   . rename_i cells n hC; exact .inl ⟨g,cells,n,hC,h⟩
   . exact h.elim
 . rw[hg]at g
   exact .inr ⟨g,h⟩
theorem s0b{an:An}{o:Oper}(hcl:clsA an=1)(hg:n03 ops o σ=some true){cells:Array Value}{n:Nat}(hC:G0h P o σ.ev=some (cells,n))
 (h:∀(b:Nat) (V':View),V.le V'->V'.Fin->V' b=some cells->K (σ.put o.dst (.val (.slice (some ⟨b,0,none⟩) n n))) V'):F05 P Shp ops an o σ V K:=by
 refine j0e hg ?_
 rw[O0h hcl]
 unfold E0g
 rw[hC]
 exact h
theorem View.Fin.more{V:View}(h:V.Fin)(cells:Array Value):∃b V',View.le V V'/\V'.Fin/\V' b=some cells:=by
 obtain⟨n,hn⟩:=h
 refine⟨n,λi=>if i=n then some cells else V i,a0c (hn n (Nat.le_refl n)),⟨n+1,λb hb => ?_⟩,by simp⟩
 have:b≠n:=by omega
 simp[this,hn b (by omega)]
theorem q14(hV:V.Fin)(hap:ox.apart ops oy=true)(hy:clsA ay=1\/clsA ay=2)(hx:clsA ax=1)
 (h:F05 P Shp ops ay oy σ V λσ1 V1=>F05 P Shp ops ax ox σ1 V1 K):F05 P Shp ops ax ox σ V λσ1 V1=>F05 P Shp ops ay oy σ1 V1 K:=by
 obtain⟨hdx,hdd,hdy⟩:=Oper.apart_spec hap
 have evx:∀s,∀x∈ox.op.operands,(σ.put oy.dst s).ev x=σ.ev x:=λs x hx=>w0d (o03 hdy x hx)
 have evy:∀s,∀x∈oy.op.operands,(σ.put ox.dst s).ev x=σ.ev x:=λs x hx=>w0d (o03 hdx x hx)
 have gx:∀s,n03 ops ox (σ.put oy.dst s)=n03 ops ox σ:=λs=>H04 hdy
 have gy:∀s,n03 ops oy (σ.put ox.dst s)=n03 ops oy σ:=λs=>H04 hdx
 rcases g0b h with⟨g,h⟩|⟨g,h⟩
 . rcases hy with hy|hy
   . rw[O0h hy]at h
     unfold E0g at h
     split at h
     . rename_i cy ny hCy
       obtain⟨b0,V0,hle0,hfin0,hb0⟩:=hV.more cy
       rcases y0l hx (gx _) (evx _) (h b0 V0 hle0 hfin0 hb0)with⟨gX,cx,nx,hCx,_⟩|⟨gX,_⟩
       . refine s0b hx gX hCx λb V' hle hfin hb => ?_
         refine s0b hy (by rw[gy]; exact g) (by rw[M09 (evy _)]; exact hCy) λb2 V2 hle2 hfin2 hb2 => ?_
         rcases y0l hx (gx _) (evx _) (h b2 V2 (View.le_trans hle hle2) hfin2 hb2)with⟨_,cx',nx',hCx',hk⟩|⟨gX',_⟩
         . rw[hCx]at hCx'; cases hCx'
           have:=hk b V2 (View.le_refl _) hfin2 (hle2 _ _ hb)
           rw[M04 hdd]; exact this
         . rw[gX]at gX'; cases gX'
       . refine I08 gX ?_
         refine s0b hy (by rw[gy]; exact g) (by rw[M09 (evy _)]; exact hCy) λb2 V2 hle2 hfin2 hb2 => ?_
         rcases y0l hx (gx _) (evx _) (h b2 V2 hle2 hfin2 hb2)with⟨gX',_⟩|⟨_,hk⟩
         . rw[gX]at gX'; cases gX'
         . rw[M04 hdd]; exact hk
     . exact h.elim
   . rw[S0k hy]at h
     unfold d0n at h
     split at h
     . rename_i f vs hq
       have hq':∀s,z0p P oy (σ.put ox.dst s).ev=some (f,vs):=λs=>by rw[g0h (evy s)]; exact hq
       obtain⟨v0,V0,hle0,hfin0,hr0⟩:=h.inst hV
       obtain⟨s0,hk0,_⟩:=p14 (M0h hr0)
       have hcall:∀s V',V.le V'->V'.Fin->(∀s' V1 V2,V.le V1->V1.le V2->V'.le V2->V2.Fin->F05 P Shp ops ax ox (σ.put oy.dst s') V1 K->K ((σ.put ox.dst s).put oy.dst s') V2) ->
        F05 P Shp ops ay oy (σ.put ox.dst s) V' K:=by
        intro s V' hle hfin hK
        refine j0e (by rw[gy]; exact g) ?_
        rw[S0k hy]
        unfold d0n
        rw[hq' s]
        refine(C0v hle h).mono' λv V2 hle2 hfin2 ⟨V1,hl12,hl1,hr⟩ => ?_
        exact x0d (λs hs=>D0c (λs' hs'=>hK s' V1 V2 hl1 hl12 hle2 hfin2 hs') hs) hr
       rcases y0l hx (gx _) (evx _) hk0 with⟨gX,cx,nx,hCx,_⟩|⟨gX,_⟩
       . refine s0b hx gX hCx λb V' hle hfin hb=>hcall _ V' hle hfin λs' V1 V2 hl1 hl12 hl2 hfin2 hs => ?_
         rcases y0l hx (gx _) (evx _) hs with⟨_,cx',nx',hCx',hk⟩|⟨gX',_⟩
         . rw[hCx]at hCx'; cases hCx'
           have:=hk b V2 hl12 hfin2 (hl2 _ _ hb)
           rw[M04 hdd]; exact this
         . rw[gX]at gX'; cases gX'
       . refine I08 gX (j0e (by rw[gy]; exact g) ?_)
         rw[S0k hy]
         unfold d0n
         rw[hq' (.val undef)]
         refine h.mono' λv V1 hl1 hf1 hr=>x0d (λs hs=>D0c (λs' hs' => ?_) hs) hr
         rcases y0l hx (gx _) (evx _) hs' with⟨gX',_⟩|⟨_,hk⟩
         . rw[gX]at gX'; cases gX'
         . rw[M04 hdd]; exact hk
     . exact h.elim
 . rcases y0l hx (gx _) (evx _) h with⟨gX,cx,nx,hCx,hk⟩|⟨gX,hk⟩
   . refine s0b hx gX hCx λb V' hle hfin hb=>I08 (by rw[gy]; exact g) ?_
     rw[M04 hdd]; exact hk b V' hle hfin hb
   . refine I08 gX (I08 (by rw[gy]; exact g) ?_)
     rw[M04 hdd]; exact hk
end swap
