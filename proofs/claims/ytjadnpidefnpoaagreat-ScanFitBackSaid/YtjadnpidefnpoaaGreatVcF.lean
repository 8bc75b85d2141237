/- Part. -/
import Derived.Test.YtjadnpidefnpoaaGreatVcE
namespace Go.Vc
open Go Go.RowKit
def wrA(an:An):Bool:=an.fl==3||an.fl==6||an.fl==16||an.fl==23
def clsA(an:An):Nat:=match an.fl with|10=>2|11=>1|13=>5|14=>3|15=>4|17=>4|18=>3|19=>3|21=>3|24=>6|25=>6|26=>6|_=>0
theorem M0q{sp:Bool}{s:SV}{k:SV->Prop}(h:fin sp s k):∃s',k s'/\fin sp s (λt=>t=s'):=by
 revert h; unfold fin
 split
 . intro h; exact⟨_,h,rfl⟩
 . split
   . intro h; exact⟨_,h,rfl⟩
   . rename_i b
     intro h
     cases b with
     | true=>exact⟨_,h.1 rfl,⟨λ_=>rfl,by simp⟩⟩
     | false=>exact⟨_,h.2 rfl,⟨by simp,λ_=>rfl⟩⟩
   . intro h; exact h.elim
theorem d08{sp:Bool}{s:SV}{k k':SV->Prop}(hk:∀s,k s->k' s)(h:fin sp s k):fin sp s k':=by
 revert h; unfold fin
 split
 . exact hk _
 . split
   . exact hk _
   . intro h; exact⟨λe=>hk _ (h.1 e),λe=>hk _ (h.2 e)⟩
   . exact id
def EA(P:Program)(Shp:I03)(an:An)(o:Oper)(g:Option Bool)(ev:Operand->SV)(blk:Option (Option OB))(V:View)(s:SV)(ob:Option OB):Prop :=
 match g with
 | some true=>c07 P Shp V an o ev blk λs0 ob0=>fin an.sp s0 (λs1=>s1=s)/\ob0=ob
 | some false=>s = .val undef/\(blk=some ob\/blk=none)
 | none=>False
theorem I07{σ:St}{rt:Nat}{b:Option OB}(h:σ.own[rt]?=none):σ.setOwn rt b=σ:=by
 unfold St.setOwn
 congr 1
 have:σ.own.length<=rt:=by
  rcases Nat.lt_or_ge rt σ.own.length with h'|h'
  . rw[List.getElem?_eq_getElem h']at h; simp at h
  . exact h'
 exact List.set_eq_of_length_le this
theorem u0l{P:Program}{Shp an o σ V}{K:St->View->Prop}(hcl:clsA an=0) :
 actT P Shp an o σ V K=c07 P Shp V an o σ.ev σ.own[an.rt]? λs ob=>fin an.sp s λs=>K ((σ.setOwn an.rt ob).put o.dst s) V:=by
 unfold actT
 split
 all_goals first
  | rfl
  | (rename_i h; simp[clsA,h]at hcl; done)
theorem u0i{P:Program}{Shp ops an o σ V}{K:St->View->Prop}(hcl:clsA an=0)(h:Q03 P Shp ops an o σ V K) :
 ∃s ob,EA P Shp an o (c02 ops o σ) σ.ev σ.own[an.rt]? V s ob/\K ((σ.setOwn an.rt ob).put o.dst s) V:=by
 unfold Q03 at h
 split at h
 . rename_i hg
   rw[u0l hcl]at h
   obtain⟨s,ob,hk,hc⟩:=t0l h
   obtain⟨s',hk',hf⟩:=M0q hk
   refine⟨s',ob,?_,hk'⟩
   rw[hg]
   exact H0c (λs0 ob0 ⟨e1,e2⟩=>⟨by rw[e1]; exact hf,e2⟩) hc
 . rename_i hg
   cases hb:σ.own[an.rt]? with
   | none=>exact⟨.val undef,none,by rw[hg]; exact⟨rfl,.inr rfl⟩,by rw[I07 hb]; exact h⟩
   | some b=>exact⟨.val undef,b,by rw[hg]; exact⟨rfl,.inl rfl⟩,by rw[e00 hb]; exact h⟩
 . exact h.elim
theorem c0a{P:Program}{Shp ops an o σ V s ob}{K:St->View->Prop}(hcl:clsA an=0)(h:EA P Shp an o (c02 ops o σ) σ.ev σ.own[an.rt]? V s ob)
 (hk:K ((σ.setOwn an.rt ob).put o.dst s) V):Q03 P Shp ops an o σ V K:=by
 unfold Q03
 cases hg:c02 ops o σ with
 | none=>rw[hg]at h; exact h.elim
 | some g =>
   rw[hg]at h
   cases g with
   | true =>
     simp only[]
     rw[u0l hcl]
     refine H0c (λs0 ob0 ⟨h1,h2⟩ => ?_) h
     subst h2
     exact d08 (λs1 e=>by rw[e]; exact hk) h1
   | false =>
     simp only[]
     obtain⟨rfl,hb⟩:=h
     rcases hb with hb|hb
     . rw[e00 hb]at hk; exact hk
     . rw[I07 hb]at hk; exact hk
theorem k0o{P:Program}{Shp an o g ev blk V V' s ob}(hV:View.le V V')(h:EA P Shp an o g ev blk V s ob):EA P Shp an o g ev blk V' s ob:=by
 cases g with
 | none=>exact h
 | some g=>cases g with
   | true=>exact C0m hV h
   | false=>exact h
theorem e08{P:Program}{Shp an o g ev ev' blk V s ob}(hev:∀x∈o.op.operands,ev x=ev' x)(h:EA P Shp an o g ev blk V s ob):EA P Shp an o g ev' blk V s ob:=by
 cases g with
 | none=>exact h
 | some g=>cases g with
   | true=>exact k0k hev h
   | false=>exact h
theorem Y0g{P:Program}{Shp an o g ev blk V s ob}(hw:wrA an=false)(h:EA P Shp an o g ev blk V s ob):blk=some ob\/blk=none:=by
 cases g with
 | none=>exact h.elim
 | some g=>cases g with
   | false=>exact h.2
   | true =>
     cases blk with
     | none=>exact .inr rfl
     | some b =>
       have h3:an.fl≠3:=by intro e; simp[wrA,e]at hw
       have h6:an.fl≠6:=by intro e; simp[wrA,e]at hw
       have h16:an.fl≠16:=by intro e; simp[wrA,e]at hw
       have h23:an.fl≠23:=by intro e; simp[wrA,e]at hw
       obtain⟨s0,ob0,⟨rfl,_,rfl⟩,_⟩:=t0l (D0m h3 h6 h16 h23 h)
       exact .inl rfl
theorem J07{σ:St}{r r':Nat}{ob:Option OB}(h:r≠r'):(σ.setOwn r ob).own[r']?=σ.own[r']?:=by
 simp[St.setOwn,List.getElem?_set_ne h]
theorem s08{σ:St}{d:Option Tmp}{s:SV}:(σ.put d s).own=σ.own:=by cases d<;>rfl
theorem J08{σ:St}{d:Option Tmp}{s:SV}{x:Operand}(h:∀t,d=some t->x ≠ .tmp t):(σ.put d s).ev x=σ.ev x:=by
 cases d with
 | none=>rfl
 | some t =>
   cases x with
   | tmp u =>
     have hne:t≠u:=λe=>h t rfl (e▸rfl)
     simp[St.ev,St.put,List.getD,List.getElem?_set_ne hne]
   | const v=>rfl
   | global g=>rfl
   | func f=>rfl
theorem M06{σ:St}{r:Nat}{ob:Option OB}{x:Operand}:(σ.setOwn r ob).ev x=σ.ev x:=by cases x<;>rfl
theorem U02{ops:Array Oper}{o:Oper}{σ:St}{d:Option Tmp}{s:SV}(h:∀t,d=some t->t∉o.looksAt ops):c02 ops o (σ.put d s)=c02 ops o σ:=by
 unfold c02
 cases hg:o.guard with
 | none=>rfl
 | some g =>
   obtain⟨j,want⟩:=g
   simp only[]
   cases ht:(ops[j]?).bind (·.dst)with
   | none=>rfl
   | some t =>
     simp only[]
     cases d with
     | none=>rfl
     | some u =>
       have hne:u≠t:=by
        rintro rfl
        refine h u rfl ?_
        simp[Oper.looksAt,hg,ht]
       have:(σ.put (some u) s).tm.getD t .any=σ.tm.getD t .any:=by simp[St.put,List.getD,List.getElem?_set_ne hne]
       rw[this]
theorem N03{ops:Array Oper}{o:Oper}{σ:St}{r:Nat}{ob:Option OB}:c02 ops o (σ.setOwn r ob)=c02 ops o σ:=rfl
theorem d02{ops:Array Oper}{o:Oper}{d:Option Tmp}(h:∀t,d=some t->t∉o.looksAt ops):∀x∈o.op.operands,∀t,d=some t->x ≠ .tmp t:=by
 intro x hx t ht e
 refine h t ht ?_
 subst e
 simp only[Oper.looksAt,List.mem_append,List.mem_filterMap]
 exact .inl ⟨.tmp t,by simpa using hx,rfl⟩
theorem c03{σ:St}{d d':Option Tmp}{s s':SV}(h:∀t,d=some t->d'≠some t):(σ.put d s).put d' s'=(σ.put d' s').put d s:=by
 cases d with
 | none=>rfl
 | some t=>cases d' with
   | none=>rfl
   | some t' =>
     have hne:t≠t':=λe=>h t rfl (by rw[e])
     simp only[St.put]
     congr 1
     exact List.set_comm _ _ hne
theorem p04{σ:St}{r:Nat}{ob:Option OB}{d:Option Tmp}{s:SV}:(σ.put d s).setOwn r ob=(σ.setOwn r ob).put d s:=by cases d<;>rfl
theorem i09{σ:St}{r r':Nat}{ob ob':Option OB}(h:r≠r'):(σ.setOwn r ob).setOwn r' ob'=(σ.setOwn r' ob').setOwn r ob:=by
 simp only[St.setOwn]
 congr 1
 exact List.set_comm _ _ h
def q0e(o:Oper)(an:An):Bool :=
 match an.fl,an.sp,o.op with
 | 7,false,.fieldAddr _ _ _=>true
 | 7,false,.indexAddr _ _ _=>true
 | 5,false,.load _ _=>true
 | 2,false,.move _=>true
 | 2,false,.assign _=>true
 | _,_,_=>false
def w0i(ops:Array Oper)(y x:Oper×An):Bool :=
 Oper.apart ops x.1 y.1 &&
 match clsA y.2,clsA x.2 with
 | 0,0 => !(Nat.beq y.2.rt x.2.rt)||(!wrA y.2 && !wrA x.2)
 | 0,1=>true
 | 1,1=>true
 | 2,1=>true
 | 0,2=>true
 | 0,4=>true
 | 0,5=>q0e y.1 y.2 && !(Nat.beq y.2.rt x.2.rt)
 | 0,6 => !(Nat.beq y.2.rt x.2.rt)
 | _,_=>false
section swap
variable {P:Program} {Shp:I03} {ops:Array Oper} {oy ox:Oper} {ay ax:An} {σ:St} {V:View} {K:St->View->Prop}
theorem a0s(hap:ox.apart ops oy=true)(hy:clsA ay=0)(hx:clsA ax=0)(hrt:ay.rt≠ax.rt\/(wrA ay=false/\wrA ax=false))
 (h:Q03 P Shp ops ay oy σ V λσ1 V1=>Q03 P Shp ops ax ox σ1 V1 K):Q03 P Shp ops ax ox σ V λσ1 V1=>Q03 P Shp ops ay oy σ1 V1 K:=by
 obtain⟨hdx,hdd,hdy⟩:=Oper.apart_spec hap
 obtain⟨sy,oby,hEy,h⟩:=u0i hy h
 obtain⟨sx,obx,hEx,h⟩:=u0i hx h
 rw[U02 hdy,N03,s08]at hEx
 have hEx:EA P Shp ax ox (c02 ops ox σ) σ.ev (σ.setOwn ay.rt oby).own[ax.rt]? V sx obx :=
  e08 (λx hx=>by rw[J08 (d02 hdy x hx),M06]) hEx
 have hown:(σ.setOwn ay.rt oby).own[ax.rt]?=σ.own[ax.rt]?:=by
  rcases hrt with h1|⟨h1,h2⟩
  . exact J07 h1
  . rcases Y0g h1 hEy with e|e
    . rw[e00 e]
    . rw[I07 e]
 rw[hown]at hEx
 refine c0a hx hEx (c0a hy (s:=sy) (ob:=oby) ?_ ?_)
 . rw[U02 hdx,N03,s08]
   have hown':(σ.setOwn ax.rt obx).own[ay.rt]?=σ.own[ay.rt]?:=by
    rcases hrt with h1|⟨h1,h2⟩
    . exact J07 (λe=>h1 e.symm)
    . rcases Y0g h2 hEx with e|e
      . rw[e00 e]
      . rw[I07 e]
   rw[hown']
   exact e08 (λx hx=>by rw[J08 (d02 hdx x hx),M06]) hEy
 . have e:(((σ.setOwn ax.rt obx).put ox.dst sx).setOwn ay.rt oby).put oy.dst sy=(((σ.setOwn ay.rt oby).put oy.dst sy).setOwn ax.rt obx).put ox.dst sx:=by
     rw[p04,p04,c03 hdd]
     congr 2
     rcases hrt with h1|⟨h1,h2⟩
     . exact i09 (λe=>h1 e.symm)
     . have ey:=Y0g h1 hEy
       have ex:=Y0g h2 hEx
       have:∀ {r:Nat} {b:Option OB} {τ:St},(τ.own[r]?=some b\/τ.own[r]?=none)->τ.setOwn r b=τ:=by
        intro r b τ hh; rcases hh with hh|hh
        . exact e00 hh
        . exact I07 hh
       rw[this ex,this ey,this ex]
   rw[e]; exact h
theorem s0e{o:Oper}{σ σ':St}{K K':St->View->Prop}(hev:∀x∈o.op.operands,σ.ev x=σ'.ev x)
 (hk:∀s V',V.le V'->V'.Fin->K (σ.put o.dst s) V'->K' (σ'.put o.dst s) V') (h:b0b P o σ V K):b0b P o σ' V K':=by
 revert h; unfold b0b
 rw[L06 hev]
 split
 . intro h b V' hle hfin hb; exact hk _ _ hle hfin (h b V' hle hfin hb)
 . exact id
theorem K08{ts:List TypeId}{v:Value}{k k':SV->Prop}(hk:∀s,k s->k' s)(h:resT Shp ts v k):resT Shp ts v k':=by
 revert h; unfold resT
 split
 . rintro⟨h1,h2⟩; exact⟨h1,hk _ h2⟩
 . rintro⟨x,h1,h2⟩; exact⟨x,h1,hk _ h2⟩
 . rintro⟨x,y,h1,h2⟩; exact⟨x,y,h1,hk _ h2⟩
 . rintro⟨x,y,z,h1,h2⟩; exact⟨x,y,z,h1,hk _ h2⟩
 . rintro⟨x,y,z,q,h1,h2⟩; exact⟨x,y,z,q,h1,hk _ h2⟩
 . exact id
theorem s0b{o:Oper}{ev ev':Operand->SV}(hev:∀x∈o.op.operands,ev x=ev' x):U0g P o ev=U0g P o ev':=by
 unfold U0g
 split
 . rename_i c hop
   split
   . rename_i fo hcal
     rw[hev fo (by simp[hop,Op.operands,Call.operands,hcal])]
     rw[p07 (ev:=ev) (ev':=ev') (l:=c.args.toList) (λx hx=>hev x (by simp at hx; simp[hop,Op.operands,Call.operands,hx]))]
   . rename_i r name hcal
     rw[hev r (by simp[hop,Op.operands,Call.operands,hcal])]
     rw[p07 (ev:=ev) (ev':=ev') (l:=c.args.toList) (λx hx=>hev x (by simp at hx; simp[hop,Op.operands,Call.operands,hx]))]
   . rfl
 . rfl
theorem j0g{sp:Bool}{o:Oper}{σ σ':St}{K K':St->View->Prop}(hev:∀x∈o.op.operands,σ.ev x=σ'.ev x)
 (hk:∀s V',V.le V'->V'.Fin->K (σ.put o.dst s) V'->K' (σ'.put o.dst s) V') (h:A0f P Shp sp o σ V K):A0f P Shp sp o σ' V K':=by
 revert h; unfold A0f
 rw[s0b hev]
 split
 . intro h
   exact h.mono' λv V' hle hfin hr=>K08 (λs hs=>d08 (λs' hs'=>hk s' V' hle hfin hs') hs) hr
 . exact id
theorem m0l{f:FuncId}{args:Array Value}{V V':View}{R:Value->View->Prop}(hle:V.le V')(h:a00 P f args V R) :
 a00 P f args V' λv V2=>∃V1,View.le V1 V2/\View.le V V1/\R v V1:=by
 intro w hw
 refine(h w (f0i hle hw)).mono λe w' ⟨v,V1,he,hl1,hin1,hf1,hb,hr⟩ => ?_
 let V2:View:=λi=>match V' i with|some cs=>some cs|none=>V1 i
 have hinV':V'.In w':=by
  intro b cs hb'
  obtain⟨T,fr,hwb⟩:=hw b cs hb'
  refine⟨T,fr,?_⟩
  rw[hb.block b (by
   rcases Nat.lt_or_ge b w.heap.size with h|h
   . exact h
   . rw[Array.getElem?_eq_none h]at hwb; simp at hwb)]
  exact hwb
 refine⟨v,V2,he,?_,?_,?_,hb,V1,?_,hl1,hr⟩
 . intro b cs hb'; simp[V2,hb']
 . intro b cs hb'
   simp only[V2]at hb'
   split at hb'
   . rename_i ds hd; cases hb'; exact hinV' b _ hd
   . exact hin1 b cs hb'
 . intro b cs hb'
   simp only[V2]at hb'
   split at hb'
   . rename_i ds hd; cases hb'; exact .inl hd
   . rename_i hd
     rcases hf1 b cs hb' with h1|h1
     . rw[hle b cs h1]at hd; simp at hd
     . exact .inr h1
 . intro b cs hb'
   simp only[V2]
   split
   . rename_i ds hd
     obtain⟨T,fr,h1⟩:=hinV' b ds hd
     obtain⟨T',fr',h2⟩:=hin1 b cs hb'
     rw[h1]at h2; simp at h2; simp[h2.1]
   . exact hb'
theorem C07{an:An}{o:Oper}(h:Q03 P Shp ops an o σ V K) :
 (c02 ops o σ=some true/\actT P Shp an o σ V K)\/(c02 ops o σ=some false/\K (σ.put o.dst (.val undef)) V):=by
 unfold Q03 at h
 split at h
 . rename_i hg; exact .inl ⟨hg,h⟩
 . rename_i hg; exact .inr ⟨hg,h⟩
 . exact h.elim
theorem j09{an:An}{o:Oper}(hg:c02 ops o σ=some true)(h:actT P Shp an o σ V K):Q03 P Shp ops an o σ V K:=by unfold Q03; rw[hg]; exact h
theorem Y05{an:An}{o:Oper}(hg:c02 ops o σ=some false)(h:K (σ.put o.dst (.val undef)) V):Q03 P Shp ops an o σ V K:=by unfold Q03; rw[hg]; exact h
theorem O0b{an:An}{o:Oper}(hcl:clsA an=1):actT P Shp an o σ V K=b0b P o σ V K:=by
 unfold actT
 split
 all_goals first
  | rfl
  | (rename_i h; simp[clsA,h]at hcl; done)
  | (simp[clsA]at hcl; split at hcl<;>simp_all)
theorem U0d{an:An}{o:Oper}(hcl:clsA an=2):actT P Shp an o σ V K=A0f P Shp an.sp o σ V K:=by
 unfold actT
 split
 all_goals first
  | rfl
  | (rename_i h; simp[clsA,h]at hcl; done)
  | (simp[clsA]at hcl; split at hcl<;>simp_all)
theorem k0r{an:An}{o:Oper}(hcl:clsA an=5):actT P Shp an o σ V K=appT P an.rt o σ V K:=by
 unfold actT
 split
 all_goals first
  | rfl
  | (rename_i h; simp[clsA,h]at hcl; done)
  | (simp[clsA]at hcl; split at hcl<;>simp_all)
theorem l0o{an:An}{o:Oper}(hcl:clsA an=4):(∀σ V K,actT P Shp an o σ V K=g09 P o σ V K)\/(∀σ V K,actT P Shp an o σ V K=d0k P o σ V K):=by
 have h:an.fl=15\/an.fl=17:=by
  simp[clsA]at hcl; split at hcl<;>simp_all
 rcases h with h|h
 . exact .inl λσ V K=>by unfold actT; rw[h]; rfl
 . exact .inr λσ V K=>by unfold actT; rw[h]; rfl
theorem k09{o:Oper}{x y:Operand}{e:TypeId}{sz bs:Nat}(h:appQ P o=some (x,y,e,sz,bs)):x∈o.op.operands/\y∈o.op.operands:=by
 obtain⟨t,i,z,hop,_⟩:=N0b h
 simp[hop,Op.operands,Call.operands]
theorem P0b{o:Oper}{σ σ':St}{K K':St->View->Prop}(hev:∀x∈o.op.operands,σ.ev x=σ'.ev x)
 (hk:∀s V',V.le V'->V'.Fin->K (σ.put o.dst s) V'->K' (σ'.put o.dst s) V') (h:g09 P o σ V K):g09 P o σ' V K':=by
 revert h; unfold g09
 split
 . rename_i x y e sz bs hq
   obtain⟨h1,h2⟩:=k09 hq
   rw[hev x h1,hev y h2]
   split
   . rintro⟨e0,xs,vs,a1,a2,a3,a4,a5,a6,h⟩
     exact⟨e0,xs,vs,a1,a2,a3,a4,a5,a6,λra rc V' b1 b2 b3 b4 b5=>hk _ V' b1 b2 (h ra rc V' b1 b2 b3 b4 b5)⟩
   . exact id
 . exact id
theorem k0g{o:Oper}{σ σ':St}{K K':St->View->Prop}(hev:∀x∈o.op.operands,σ.ev x=σ'.ev x)
 (hk:∀s V',V.le V'->V'.Fin->K (σ.put o.dst s) V'->K' (σ'.put o.dst s) V') (h:d0k P o σ V K):d0k P o σ' V K':=by
 revert h; unfold d0k
 split
 . rename_i t n c hop
   rw[hev n (by simp[hop,Op.operands]),hev c (by simp[hop,Op.operands])]
   split
   . split
     . rintro⟨h1,h⟩
       refine⟨h1,?_⟩
       revert h
       split
       . intro h b V' b1 b2 b3; exact hk _ V' b1 b2 (h b V' b1 b2 b3)
       . exact id
     . exact id
   . exact id
 . exact id
theorem l0k{an:An}(hcl:clsA an=4){o:Oper}{σ σ':St}{K K':St->View->Prop}(hev:∀x∈o.op.operands,σ.ev x=σ'.ev x)
 (hk:∀s V',V.le V'->V'.Fin->K (σ.put o.dst s) V'->K' (σ'.put o.dst s) V') (h:actT P Shp an o σ V K):actT P Shp an o σ' V K':=by
 rcases l0o (P:=P) (Shp:=Shp) (o:=o) hcl with e|e
 . rw[e]at h ⊢; exact P0b hev hk h
 . rw[e]at h ⊢; exact k0g hev hk h
theorem m0k{σ:St}{id:Nat}(x:Operand):(σ.kill id).ev x=F04 id (σ.ev x):=by
 cases x with
 | tmp t =>
   simp only[St.ev,St.kill,List.getD,List.getElem?_map]
   cases σ.tm[t]?<;>rfl
 | const v=>rfl
 | global g=>rfl
 | func f=>rfl
theorem j0d{ops:Array Oper}{o:Oper}{σ:St}{id:Nat}:c02 ops o (σ.kill id)=c02 ops o σ:=by
 unfold c02
 cases o.guard with
 | none=>rfl
 | some g =>
   obtain⟨j,want⟩:=g
   simp only[]
   cases (ops[j]?).bind (·.dst)with
   | none=>rfl
   | some t =>
     simp only[]
     have:(σ.kill id).tm.getD t .any=F04 id (σ.tm.getD t .any):=m0k (.tmp t)
     rw[this]
     cases σ.tm.getD t .any with
     | lst i n c=>by_cases e:i=id<;>simp[F04,e]
     | les i n c=>by_cases e:i=id<;>simp[F04,e]
     | tlst i n c r=>by_cases e:i=id<;>simp[F04,e]
     | _=>rfl
theorem w0l{σ:St}{id r:Nat}:(σ.kill id).own[r]?=(σ.own[r]?).map (L0b id):=by simp[St.kill]
theorem x0l{σ:St}{id:Nat}{d:Option Tmp}{s:SV}:(σ.put d s).kill id=(σ.kill id).put d (F04 id s):=by
 cases d with
 | none=>rfl
 | some t=>simp[St.put,St.kill,List.map_set]
theorem t0e{σ:St}{id r:Nat}{ob:Option OB}:(σ.setOwn r ob).kill id=(σ.kill id).setOwn r (L0b id ob):=by simp[St.setOwn,St.kill,List.map_set]
theorem m0o{id:Nat}{an:An}{o:Oper}{g:Option Bool}{ev:Operand->SV}{blk:Option (Option OB)}{s:SV}{ob:Option OB}(hb:q0e o an=true)(h:EA P Shp an o g ev blk V s ob) :
 EA P Shp an o g (λx=>F04 id (ev x)) (blk.map (L0b id)) V (F04 id s) (L0b id ob):=by
 cases g with
 | none=>exact h
 | some g =>
   cases g with
   | false =>
     obtain⟨rfl,h⟩:=h
     refine⟨rfl,?_⟩
     rcases h with rfl|rfl
     . exact .inl rfl
     . exact .inr rfl
   | true =>
     simp only[EA]at h ⊢
     unfold q0e at hb
     split at hb
     . rename_i hfl hsp hop
       unfold c07 at h ⊢
       rw[hfl]at h ⊢
       cases blk with
       | none=>simp[P03,hop]at h
       | some b =>
         simp only[P03,hop,hsp,fin,Option.map_some]at h ⊢
         split at h
         . rename_i he hq
           rw[he]
           simp only[F04,hq]
           obtain⟨rfl,rfl⟩:=h
           exact⟨rfl,rfl⟩
         . rename_i he hq
           rw[he]
           simp only[F04,hq]
           obtain⟨hpa,rfl,rfl⟩:=h
           exact⟨hpa,rfl,rfl⟩
         . exact h.elim
     . rename_i hfl hsp hop
       unfold c07 at h ⊢
       rw[hfl]at h ⊢
       cases blk with
       | none=>simp[P03,hop]at h
       | some b =>
         simp only[P03,hop,hsp,fin,Option.map_some]at h ⊢
         split at h
         . rename_i he hi
           rw[he,hi]
           simp only[F04]
           split at h
           . rename_i hE
             split at h
             . rename_i hZ
               obtain⟨h1,rfl,rfl⟩:=h
               exact⟨h1,rfl,rfl⟩
             . exact h.elim
           . exact h.elim
         . rename_i he hi
           rw[he,hi]
           simp only[F04]
           split at h
           . rename_i hE
             split at h
             . rename_i hZ
               obtain⟨h1,rfl,rfl⟩:=h
               exact⟨h1,rfl,rfl⟩
             . exact h.elim
           . exact h.elim
         . rename_i he hi
           rw[he,hi]
           simp only[F04]
           split at h
           . rename_i hE
             split at h
             . rename_i hZ
               obtain⟨h1,rfl,rfl⟩:=h
               exact⟨h1,rfl,rfl⟩
             . exact h.elim
           . exact h.elim
         . rename_i he hi
           rw[he,hi]
           simp only[F04]
           split at h
           . rename_i hE
             split at h
             . rename_i hZ
               obtain⟨h1,rfl,rfl⟩:=h
               exact⟨h1,rfl,rfl⟩
             . exact h.elim
           . exact h.elim
         . exact h.elim
     . rename_i hfl hsp hop
       unfold c07 at h ⊢
       rw[hfl]at h ⊢
       cases blk with
       | none=>simp[T05,hop]at h
       | some b =>
         simp only[T05,hop,hsp,fin,Option.map_some]at h ⊢
         split at h
         . rename_i he
           rw[he]
           simp only[F04]
           split at h
           . rename_i hA hZ
             obtain⟨x,h1,h2,h⟩:=h
             refine⟨x,h1,h2,?_⟩
             split at h
             . rename_i hv
               split at h
               . rename_i hq
                 obtain⟨rfl,rfl⟩:=h
                 exact⟨rfl,rfl⟩
               . exact h.elim
             . exact h.elim
           . rename_i hA
             obtain⟨x,h1,rfl,rfl⟩:=h
             exact⟨x,h1,rfl,rfl⟩
           . exact h.elim
         . exact h.elim
     . rename_i hfl hsp hop
       unfold c07 at h ⊢
       rw[hfl]at h ⊢
       simp only[k05,hop,hsp,fin]at h ⊢
       cases blk with
       | none=>exact h.elim
       | some b=>obtain⟨rfl,rfl⟩:=h; exact⟨rfl,rfl⟩
     . rename_i hfl hsp hop
       unfold c07 at h ⊢
       rw[hfl]at h ⊢
       simp only[k05,hop,hsp,fin]at h ⊢
       cases blk with
       | none=>exact h.elim
       | some b=>obtain⟨rfl,rfl⟩:=h; exact⟨rfl,rfl⟩
     . simp at hb
theorem b0s(hap:ox.apart ops oy=true)(hb:q0e oy ay=true)(hx:clsA ax=5)(hrt:ay.rt≠ax.rt)
 (h:Q03 P Shp ops ay oy σ V λσ1 V1=>Q03 P Shp ops ax ox σ1 V1 K):Q03 P Shp ops ax ox σ V λσ1 V1=>Q03 P Shp ops ay oy σ1 V1 K:=by
 have hy:clsA ay=0:=by
  unfold q0e at hb; unfold clsA
  split at hb
  . rename_i h _ _; rw[h]; rfl
  . rename_i h _ _; rw[h]; rfl
  . rename_i h _ _; rw[h]; rfl
  . rename_i h _ _; rw[h]; rfl
  . rename_i h _ _; rw[h]; rfl
  . simp at hb
 obtain⟨hdx,hdd,hdy⟩:=Oper.apart_spec hap
 obtain⟨sy,oby,hEy,h⟩:=u0i hy h
 have hev:∀x∈ox.op.operands,((σ.setOwn ay.rt oby).put oy.dst sy).ev x=σ.ev x:=λx hx=>by rw[J08 (d02 hdy x hx),M06]
 have hg:c02 ops ox ((σ.setOwn ay.rt oby).put oy.dst sy)=c02 ops ox σ:=by rw[U02 hdy,N03]
 rcases C07 h with⟨g,h⟩|⟨g,h⟩
 . rw[hg]at g
   refine j09 g ?_
   rw[k0r hx]at h ⊢
   unfold appT at h ⊢
   split at h
   . rename_i x y e sz bs hq
     obtain⟨m1,m2⟩:=k09 hq
     rw[hev x m1,hev y m2,s08,J07 hrt]at h
     revert h
     split
     . split
       . rintro⟨xs,vs,a1,a2,a3,a4,a5,a6,h⟩
         refine⟨xs,vs,a1,a2,a3,a4,a5,a6,λcap' l' hok => ?_⟩
         have hk:=h cap' l' hok
         refine c0a hy (s:=F04 ax.rt sy) (ob:=L0b ax.rt oby) ?_ ?_
         . rw[U02 hdx,N03,j0d,s08,J07 (λe=>hrt e.symm),w0l]
           refine e08 (λx hx => ?_) (m0o hb hEy)
           rw[J08 (d02 hdx x hx),M06,m0k]
         . have e1:∀(X:SV) (L:Option OB),((((σ.kill ax.rt).setOwn ax.rt L).put ox.dst X).setOwn ay.rt (L0b ax.rt oby)).put oy.dst (F04 ax.rt sy) =
               ((((σ.setOwn ay.rt oby).put oy.dst sy).kill ax.rt).setOwn ax.rt L).put ox.dst X:=by
             intro X L
             rw[x0l,t0e,p04 (σ:=(σ.kill ax.rt).setOwn ax.rt L),p04 (σ:=(σ.kill ax.rt).setOwn ay.rt (L0b ax.rt oby)),c03 hdd,i09 hrt]
           rw[e1]; exact hk
       . exact λh=>h.elim
     . split
       . rintro⟨xs,vs,a1,a2,a3,a4,a5,a6,h⟩
         refine⟨xs,vs,a1,a2,a3,a4,a5,a6,λcap' l' hok => ?_⟩
         have hk:=h cap' l' hok
         refine c0a hy (s:=F04 ax.rt sy) (ob:=L0b ax.rt oby) ?_ ?_
         . rw[U02 hdx,N03,j0d,s08,J07 (λe=>hrt e.symm),w0l]
           refine e08 (λx hx => ?_) (m0o hb hEy)
           rw[J08 (d02 hdx x hx),M06,m0k]
         . have e1:∀(X:SV) (L:Option OB),((((σ.kill ax.rt).setOwn ax.rt L).put ox.dst X).setOwn ay.rt (L0b ax.rt oby)).put oy.dst (F04 ax.rt sy) =
               ((((σ.setOwn ay.rt oby).put oy.dst sy).kill ax.rt).setOwn ax.rt L).put ox.dst X:=by
             intro X L
             rw[x0l,t0e,p04 (σ:=(σ.kill ax.rt).setOwn ax.rt L),p04 (σ:=(σ.kill ax.rt).setOwn ay.rt (L0b ax.rt oby)),c03 hdd,i09 hrt]
           rw[e1]; exact hk
       . exact λh=>h.elim
     . exact λh=>h.elim
   . exact h.elim
 . rw[hg]at g
   refine Y05 g (c0a hy (s:=sy) (ob:=oby) ?_ ?_)
   . rw[U02 hdx,s08]
     exact e08 (λx hx=>by rw[J08 (d02 hdx x hx)]) hEy
   . rw[p04,c03 hdd]; exact h
theorem J0m{an:An}(hcl:clsA an=6):(∀o σ V K,actT P Shp an o σ V K=c0b P Shp an.sp an.rt o σ V K)\/(∀o σ V K,actT P Shp an o σ V K=B0f P an.rt o σ V K)\/(∀o σ V K,actT P Shp an o σ V K=K0b P an.rt o σ V K):=by
 have h:an.fl=24\/an.fl=25\/an.fl=26:=by
  simp[clsA]at hcl; split at hcl<;>simp_all
 rcases h with h|h|h
 . exact .inl λo σ V K=>by unfold actT; rw[h]; rfl
 . exact .inr (.inl λo σ V K=>by unfold actT; rw[h]; rfl)
 . exact .inr (.inr λo σ V K=>by unfold actT; rw[h]; rfl)
theorem n0k{sp:Bool}{rt:Nat}{o:Oper}{σ σ':St}{K K':St->View->Prop}(hev:∀x∈o.op.operands,σ.ev x=σ'.ev x)(hown:σ.own[rt]?=σ'.own[rt]?)
 (hk:∀L s V',V.le V'->V'.Fin->K ((σ.setOwn rt L).put o.dst s) V'->K' ((σ'.setOwn rt L).put o.dst s) V') (h:c0b P Shp sp rt o σ V K):c0b P Shp sp rt o σ' V K':=by
 revert h; unfold c0b
 rw[s0b hev,hown]
 split
 . intro h; exact h.mono λv m' V' hle hfin r=>K08 (λs=>d08 λs=>hk _ s V' hle hfin) r
 . exact id
theorem K0m{rt:Nat}{o:Oper}{σ σ':St}{K K':St->View->Prop}(hev:∀x∈o.op.operands,σ.ev x=σ'.ev x)(hown:σ.own[rt]?=σ'.own[rt]?)
 (hk:∀L s,K ((σ.setOwn rt L).put o.dst s) V->K' ((σ'.setOwn rt L).put o.dst s) V) (h:B0f P rt o σ V K):B0f P rt o σ' V K':=by
 revert h; unfold B0f
 rw[hown]
 split
 . rename_i x y e sz bs ty m hq hm
   obtain⟨h1,h2⟩:=k09 hq
   rw[hev x h1,hev y h2]
   split
   . rintro⟨xs,vs,a1,a2,a3,a4,a5,a6,a7,a8,h3,h4⟩
     exact⟨xs,vs,a1,a2,a3,a4,a5,a6,a7,a8,h3,λra rc m' g=>hk _ _ (h4 ra rc m' g)⟩
   . exact id
 . exact id
theorem u0e{rt:Nat}{o:Oper}{σ σ':St}{K K':St->View->Prop}(hev:∀x∈o.op.operands,σ.ev x=σ'.ev x)(hown:σ.own[rt]?=σ'.own[rt]?)
 (hk:∀L s,K ((σ.setOwn rt L).put o.dst s) V->K' ((σ'.setOwn rt L).put o.dst s) V) (h:K0b P rt o σ V K):K0b P rt o σ' V K':=by
 revert h; unfold K0b
 rw[hown]
 split
 . rename_i t n c hop
   rw[hev n (by simp[hop,Op.operands]),hev c (by simp[hop,Op.operands])]
   split
   . split
     . split
       . rintro⟨h1,h⟩
         refine⟨h1,?_⟩
         revert h
         split
         . intro h b b1 b2; exact hk _ _ (h b b1 b2)
         . exact id
       . exact id
     . exact id
   . exact id
 . exact id
theorem c0s(hap:ox.apart ops oy=true)(hy:clsA ay=0)(hx:clsA ax=6)(hrt:ay.rt≠ax.rt)
 (h:Q03 P Shp ops ay oy σ V λσ1 V1=>Q03 P Shp ops ax ox σ1 V1 K):Q03 P Shp ops ax ox σ V λσ1 V1=>Q03 P Shp ops ay oy σ1 V1 K:=by
 obtain⟨hdx,hdd,hdy⟩:=Oper.apart_spec hap
 obtain⟨sy,oby,hEy,h⟩:=u0i hy h
 have hfin:∀L s V',V.le V'->K ((((σ.setOwn ay.rt oby).put oy.dst sy).setOwn ax.rt L).put ox.dst s) V'->Q03 P Shp ops ay oy ((σ.setOwn ax.rt L).put ox.dst s) V' K:=by
  intro L s V' hle hk
  refine c0a hy (s:=sy) (ob:=oby) ?_ ?_
  . rw[U02 hdx,N03,s08,J07 (λe=>hrt e.symm)]
    exact k0o hle (e08 (λx hx=>by rw[J08 (d02 hdx x hx),M06]) hEy)
  . have e1:(((σ.setOwn ax.rt L).put ox.dst s).setOwn ay.rt oby).put oy.dst sy=(((σ.setOwn ay.rt oby).put oy.dst sy).setOwn ax.rt L).put ox.dst s:=by
      rw[p04 (σ:=σ.setOwn ax.rt L),p04 (σ:=σ.setOwn ay.rt oby),c03 hdd,i09 hrt]
    rw[e1]; exact hk
 have hev:∀x∈ox.op.operands,((σ.setOwn ay.rt oby).put oy.dst sy).ev x=σ.ev x:=λx hx=>by rw[J08 (d02 hdy x hx),M06]
 have hown:((σ.setOwn ay.rt oby).put oy.dst sy).own[ax.rt]?=σ.own[ax.rt]?:=by rw[s08,J07 hrt]
 have hg:c02 ops ox ((σ.setOwn ay.rt oby).put oy.dst sy)=c02 ops ox σ:=by rw[U02 hdy,N03]
 rcases C07 h with⟨g,h⟩|⟨g,h⟩
 . rw[hg]at g
   refine j09 g ?_
   rcases J0m (P:=P) (Shp:=Shp) hx with hx|hx|hx
   . rw[hx]at h ⊢; exact n0k hev hown (λL s V' hle _=>hfin L s V' hle) h
   . rw[hx]at h ⊢; exact K0m hev hown (λL s=>hfin L s V (View.le_refl V)) h
   . rw[hx]at h ⊢; exact u0e hev hown (λL s=>hfin L s V (View.le_refl V)) h
 . rw[hg]at g
   refine Y05 g (c0a hy (s:=sy) (ob:=oby) ?_ ?_)
   . rw[U02 hdx,s08]
     exact e08 (λx hx=>by rw[J08 (d02 hdx x hx)]) hEy
   . rw[p04,c03 hdd]; exact h
theorem n0o(hap:ox.apart ops oy=true)(hy:clsA ay=0)(hx:clsA ax=1\/clsA ax=2\/clsA ax=4)
 (h:Q03 P Shp ops ay oy σ V λσ1 V1=>Q03 P Shp ops ax ox σ1 V1 K):Q03 P Shp ops ax ox σ V λσ1 V1=>Q03 P Shp ops ay oy σ1 V1 K:=by
 obtain⟨hdx,hdd,hdy⟩:=Oper.apart_spec hap
 obtain⟨sy,oby,hEy,h⟩:=u0i hy h
 have hfin:∀s V',V.le V'->K (((σ.setOwn ay.rt oby).put oy.dst sy).put ox.dst s) V'->Q03 P Shp ops ay oy (σ.put ox.dst s) V' K:=by
  intro s V' hle hk
  refine c0a hy (s:=sy) (ob:=oby) ?_ ?_
  . rw[U02 hdx,s08]
    exact k0o hle (e08 (λx hx=>by rw[J08 (d02 hdx x hx)]) hEy)
  . rw[p04,c03 hdd]; exact hk
 have hev:∀x∈ox.op.operands,((σ.setOwn ay.rt oby).put oy.dst sy).ev x=σ.ev x:=λx hx=>by rw[J08 (d02 hdy x hx),M06]
 have hg:c02 ops ox ((σ.setOwn ay.rt oby).put oy.dst sy)=c02 ops ox σ:=by rw[U02 hdy,N03]
 rcases C07 h with⟨g,h⟩|⟨g,h⟩
 . rw[hg]at g
   refine j09 g ?_
   rcases hx with hx|hx|hx
   . rw[O0b hx]at h ⊢; exact s0e hev (λs V' hle _=>hfin s V' hle) h
   . rw[U0d hx]at h ⊢; exact j0g hev (λs V' hle _=>hfin s V' hle) h
   . exact l0k hx hev (λs V' hle _=>hfin s V' hle) h
 . rw[hg]at g
   exact Y05 g (hfin _ V (View.le_refl V) h)
theorem w0e{an:An}{o:Oper}(hcl:clsA an=1){σ':St}(hg:c02 ops o σ'=c02 ops o σ)(hev:∀x∈o.op.operands,σ'.ev x=σ.ev x)(h:Q03 P Shp ops an o σ' V K) :
 (c02 ops o σ=some true/\∃cells n,G0b P o σ.ev=some (cells,n)/\∀(b:Nat) (V':View),V.le V'->V'.Fin->V' b=some cells->K (σ'.put o.dst (.val (.slice (some ⟨b,0,none⟩) n n))) V') \/
 (c02 ops o σ=some false/\K (σ'.put o.dst (.val undef)) V):=by
 rcases C07 h with⟨g,h⟩|⟨g,h⟩
 . rw[hg]at g
   rw[O0b hcl]at h
   unfold b0b at h
   rw[L06 hev]at h
   split at h
   . rename_i cells n hC; exact .inl ⟨g,cells,n,hC,h⟩
   . exact h.elim
 . rw[hg]at g
   exact .inr ⟨g,h⟩
theorem K07{an:An}{o:Oper}(hcl:clsA an=1)(hg:c02 ops o σ=some true){cells:Array Value}{n:Nat}(hC:G0b P o σ.ev=some (cells,n))
 (h:∀(b:Nat) (V':View),V.le V'->V'.Fin->V' b=some cells->K (σ.put o.dst (.val (.slice (some ⟨b,0,none⟩) n n))) V'):Q03 P Shp ops an o σ V K:=by
 refine j09 hg ?_
 rw[O0b hcl]
 unfold b0b
 rw[hC]
 exact h
theorem View.Fin.more{V:View}(h:V.Fin)(cells:Array Value):∃b V',View.le V V'/\V'.Fin/\V' b=some cells:=by
 obtain⟨n,hn⟩:=h
 refine⟨n,λi=>if i=n then some cells else V i,Z07 (hn n (Nat.le_refl n)),⟨n+1,λb hb => ?_⟩,by simp⟩
 have:b≠n:=by omega
 simp[this,hn b (by omega)]
theorem N0q(hV:V.Fin)(hap:ox.apart ops oy=true)(hy:clsA ay=1\/clsA ay=2)(hx:clsA ax=1)
 (h:Q03 P Shp ops ay oy σ V λσ1 V1=>Q03 P Shp ops ax ox σ1 V1 K):Q03 P Shp ops ax ox σ V λσ1 V1=>Q03 P Shp ops ay oy σ1 V1 K:=by
 obtain⟨hdx,hdd,hdy⟩:=Oper.apart_spec hap
 have evx:∀s,∀x∈ox.op.operands,(σ.put oy.dst s).ev x=σ.ev x:=λs x hx=>J08 (d02 hdy x hx)
 have evy:∀s,∀x∈oy.op.operands,(σ.put ox.dst s).ev x=σ.ev x:=λs x hx=>J08 (d02 hdx x hx)
 have gx:∀s,c02 ops ox (σ.put oy.dst s)=c02 ops ox σ:=λs=>U02 hdy
 have gy:∀s,c02 ops oy (σ.put ox.dst s)=c02 ops oy σ:=λs=>U02 hdx
 rcases C07 h with⟨g,h⟩|⟨g,h⟩
 . rcases hy with hy|hy
   . rw[O0b hy]at h
     unfold b0b at h
     split at h
     . rename_i cy ny hCy
       obtain⟨b0,V0,hle0,hfin0,hb0⟩:=hV.more cy
       rcases w0e hx (gx _) (evx _) (h b0 V0 hle0 hfin0 hb0)with⟨gX,cx,nx,hCx,_⟩|⟨gX,_⟩
       . refine K07 hx gX hCx λb V' hle hfin hb => ?_
         refine K07 hy (by rw[gy]; exact g) (by rw[L06 (evy _)]; exact hCy) λb2 V2 hle2 hfin2 hb2 => ?_
         rcases w0e hx (gx _) (evx _) (h b2 V2 (View.le_trans hle hle2) hfin2 hb2)with⟨_,cx',nx',hCx',hk⟩|⟨gX',_⟩
         . rw[hCx]at hCx'; cases hCx'
           have:=hk b V2 (View.le_refl _) hfin2 (hle2 _ _ hb)
           rw[c03 hdd]; exact this
         . rw[gX]at gX'; cases gX'
       . refine Y05 gX ?_
         refine K07 hy (by rw[gy]; exact g) (by rw[L06 (evy _)]; exact hCy) λb2 V2 hle2 hfin2 hb2 => ?_
         rcases w0e hx (gx _) (evx _) (h b2 V2 hle2 hfin2 hb2)with⟨gX',_⟩|⟨_,hk⟩
         . rw[gX]at gX'; cases gX'
         . rw[c03 hdd]; exact hk
     . exact h.elim
   . rw[U0d hy]at h
     unfold A0f at h
     split at h
     . rename_i f vs hq
       have hq':∀s,U0g P oy (σ.put ox.dst s).ev=some (f,vs):=λs=>by rw[s0b (evy s)]; exact hq
       obtain⟨v0,V0,hle0,hfin0,hr0⟩:=h.inst hV
       obtain⟨s0,hk0,_⟩:=M0q (M0b hr0)
       have hcall:∀s V',V.le V'->V'.Fin->(∀s' V1 V2,V.le V1->V1.le V2->V'.le V2->V2.Fin->Q03 P Shp ops ax ox (σ.put oy.dst s') V1 K->K ((σ.put ox.dst s).put oy.dst s') V2) ->
        Q03 P Shp ops ay oy (σ.put ox.dst s) V' K:=by
        intro s V' hle hfin hK
        refine j09 (by rw[gy]; exact g) ?_
        rw[U0d hy]
        unfold A0f
        rw[hq' s]
        refine(m0l hle h).mono' λv V2 hle2 hfin2 ⟨V1,hl12,hl1,hr⟩ => ?_
        exact K08 (λs hs=>d08 (λs' hs'=>hK s' V1 V2 hl1 hl12 hle2 hfin2 hs') hs) hr
       rcases w0e hx (gx _) (evx _) hk0 with⟨gX,cx,nx,hCx,_⟩|⟨gX,_⟩
       . refine K07 hx gX hCx λb V' hle hfin hb=>hcall _ V' hle hfin λs' V1 V2 hl1 hl12 hl2 hfin2 hs => ?_
         rcases w0e hx (gx _) (evx _) hs with⟨_,cx',nx',hCx',hk⟩|⟨gX',_⟩
         . rw[hCx]at hCx'; cases hCx'
           have:=hk b V2 hl12 hfin2 (hl2 _ _ hb)
           rw[c03 hdd]; exact this
         . rw[gX]at gX'; cases gX'
       . refine Y05 gX (j09 (by rw[gy]; exact g) ?_)
         rw[U0d hy]
         unfold A0f
         rw[hq' (.val undef)]
         refine h.mono' λv V1 hl1 hf1 hr=>K08 (λs hs=>d08 (λs' hs' => ?_) hs) hr
         rcases w0e hx (gx _) (evx _) hs' with⟨gX',_⟩|⟨_,hk⟩
         . rw[gX]at gX'; cases gX'
         . rw[c03 hdd]; exact hk
     . exact h.elim
 . rcases w0e hx (gx _) (evx _) h with⟨gX,cx,nx,hCx,hk⟩|⟨gX,hk⟩
   . refine K07 hx gX hCx λb V' hle hfin hb=>Y05 (by rw[gy]; exact g) ?_
     rw[c03 hdd]; exact hk b V' hle hfin hb
   . refine Y05 gX (Y05 (by rw[gy]; exact g) ?_)
     rw[c03 hdd]; exact hk
end swap
