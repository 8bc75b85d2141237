/- Part. -/
import Derived.Test.YtjadnpidefnpoaaGreatVcE
namespace Go.Vc
open Go Go.RowKit
def wrA(an:An):Bool:=an.fl==3||an.fl==6||an.fl==16||an.fl==23
def clsA(an:An):Nat:=match an.fl with|10=>2|11=>1|13=>5|14=>3|15=>4|17=>4|18=>3|19=>3|21=>3|24=>6|25=>6|26=>6|_=>0
theorem H11{sp:Bool}{s:SV}{k:SV->Prop}(h:fin sp s k):∃s',k s'/\fin sp s (λt=>t=s'):=by
 revert h; unfold fin;split
 . intro h; exact⟨_,h,rfl⟩
 split
 . intro h; exact⟨_,h,rfl⟩
 . rename_i b;intro h;cases b with
   | true=>exact⟨_,h.1 rfl,⟨λ_=>rfl,by simp⟩⟩
   | false=>exact⟨_,h.2 rfl,⟨by simp,λ_=>rfl⟩⟩
 intro h; exact h.elim
theorem N0b{sp:Bool}{s:SV}{k k':SV->Prop}(hk:∀s,k s->k' s)(h:fin sp s k):fin sp s k':=by
 revert h; unfold fin;split
 . exact hk _
 split
 . exact hk _
 . intro h; exact⟨λe=>hk _ (h.1 e),λe=>hk _ (h.2 e)⟩
 exact id
def EA(P:Program)(Shp:l04)(an:An)(o:Oper)(g:Option Bool)(ev:Operand->SV)(blk:Option (Option OB))(V:View)(s:SV)(ob:Option OB):Prop :=
 match g with
 | some true=>a0a P Shp V an o ev blk λs0 ob0=>fin an.sp s0 (λs1=>s1=s)/\ob0=ob
 | some false=>s = .val undef/\(blk=some ob\/blk=none)
 | none=>False
theorem Z0a{σ:St}{rt:Nat}{b:Option OB}(h:σ.own[rt]?=none):σ.setOwn rt b=σ:=by
 unfold St.setOwn;congr 1;have:σ.own.length<=rt:=by
  rcases Ad rt σ.own.length with h'|h'
  . rw[Ae h']at h; simp at h
  exact h'
 exact List.set_eq_of_length_le this
theorem k0t{P:Program}{Shp an o σ V}{K:St->View->Prop}(hcl:clsA an=0) :
 actT P Shp an o σ V K=a0a P Shp V an o σ.ev σ.own[an.rt]? λs ob=>fin an.sp s λs=>K ((σ.setOwn an.rt ob).put o.dst s) V:=by
 unfold actT;split
 all_goals first
  | rfl
  | (rename_i h; simp[clsA,h]at hcl; done)
theorem d0p{P:Program}{Shp ops an o σ V}{K:St->View->Prop}(hcl:clsA an=0)(h:I05 P Shp ops an o σ V K) :
 ∃s ob,EA P Shp an o (g03 ops o σ) σ.ev σ.own[an.rt]? V s ob/\K ((σ.setOwn an.rt ob).put o.dst s) V:=by
 unfold I05 at h;split at h
 . rename_i hg;rw[k0t hcl]at h;obtain⟨s,ob,hk,hc⟩:=j0t h;obtain⟨s',hk',hf⟩:=H11 hk;refine⟨s',ob,?_,hk'⟩;rw[hg];exact x0h (λs0 ob0 ⟨e1,e2⟩=>⟨by rw[e1]; exact hf,e2⟩) hc
 . rename_i hg;cases hb:σ.own[an.rt]? with
   | none=>exact⟨.val undef,none,by rw[hg]; exact⟨rfl,.inr rfl⟩,by rw[Z0a hb]; exact h⟩
   | some b=>exact⟨.val undef,b,by rw[hg]; exact⟨rfl,.inl rfl⟩,by rw[m00 hb]; exact h⟩
 exact h.elim
theorem S0d{P:Program}{Shp ops an o σ V s ob}{K:St->View->Prop}(hcl:clsA an=0)(h:EA P Shp an o (g03 ops o σ) σ.ev σ.own[an.rt]? V s ob)
 (hk:K ((σ.setOwn an.rt ob).put o.dst s) V):I05 P Shp ops an o σ V K:=by
 unfold I05;cases hg:g03 ops o σ with
 | none=>rw[hg]at h; exact h.elim
 | some g =>
   rw[hg]at h;cases g with
   | true =>
     simp only[];rw[k0t hcl];refine x0h (λs0 ob0 ⟨h1,h2⟩ => ?_) h;subst h2;exact N0b (λs1 e=>by rw[e]; exact hk) h1
   | false =>
     simp only[];obtain⟨rfl,hb⟩:=h;rcases hb with hb|hb
     . rw[m00 hb]at hk; exact hk
     rw[Z0a hb]at hk; exact hk
theorem E0w{P:Program}{Shp an o g ev blk V V' s ob}(hV:View.le V V')(h:EA P Shp an o g ev blk V s ob):EA P Shp an o g ev blk V' s ob:=by
 cases g with
 | none=>exact h
 | some g=>cases g with
   | true=>exact t0u hV h
   | false=>exact h
theorem O0b{P:Program}{Shp an o g ev ev' blk V s ob}(hev:∀x∈o.op.operands,ev x=ev' x)(h:EA P Shp an o g ev blk V s ob):EA P Shp an o g ev' blk V s ob:=by
 cases g with
 | none=>exact h
 | some g=>cases g with
   | true=>exact B0r hev h
   | false=>exact h
theorem x0n{P:Program}{Shp an o g ev blk V s ob}(hw:wrA an=false)(h:EA P Shp an o g ev blk V s ob):blk=some ob\/blk=none:=by
 cases g with
 | none=>exact h.elim
 | some g=>cases g with
   | false=>exact h.2
   | true =>
     cases blk with
     | none=>exact .inr rfl
     | some b =>
       have h3:an.fl≠3:=by intro e; simp[wrA,e]at hw
       have h6:an.fl≠6:=by intro e; simp[wrA,e]at hw
       have h16:an.fl≠16:=by intro e; simp[wrA,e]at hw
       have h23:an.fl≠23:=by intro e; simp[wrA,e]at hw
       obtain⟨s0,ob0,⟨rfl,_,rfl⟩,_⟩:=j0t (u0u h3 h6 h16 h23 h);exact .inl rfl
theorem a0b{σ:St}{r r':Nat}{ob:Option OB}(h:r≠r'):(σ.setOwn r ob).own[r']?=σ.own[r']?:=by
 simp[St.setOwn,Cr h]
theorem d0c{σ:St}{d:Option Tmp}{s:SV}:(σ.put d s).own=σ.own:=by cases d<;>rfl
theorem t0c{σ:St}{d:Option Tmp}{s:SV}{x:Operand}(h:∀t,d=some t->x ≠ .tmp t):(σ.put d s).ev x=σ.ev x:=by
 cases d with
 | none=>rfl
 | some t =>
   cases x with
   | tmp u =>
     have hne:t≠u:=λe=>h t rfl (e▸rfl)
     simp[St.ev,St.put,List.getD,Cr hne]
   | const v=>rfl
   | global g=>rfl
   | func f=>rfl
theorem s09{σ:St}{r:Nat}{ob:Option OB}{x:Operand}:(σ.setOwn r ob).ev x=σ.ev x:=by cases x<;>rfl
theorem y04{ops:Array Oper}{o:Oper}{σ:St}{d:Option Tmp}{s:SV}(h:∀t,d=some t->t∉o.looksAt ops):g03 ops o (σ.put d s)=g03 ops o σ:=by
 unfold g03;cases hg:o.guard with
 | none=>rfl
 | some g =>
   obtain⟨j,want⟩:=g;simp only[];cases ht:(ops[j]?).bind (·.dst)with
   | none=>rfl
   | some t =>
     simp only[];cases d with
     | none=>rfl
     | some u =>
       have hne:u≠t:=by
        rintro rfl;refine h u rfl ?_;simp[Oper.looksAt,hg,ht]
       have:(σ.put (some u) s).tm.getD t .any=σ.tm.getD t .any:=by simp[St.put,List.getD,Cr hne]
       rw[this]
theorem C05{ops:Array Oper}{o:Oper}{σ:St}{r:Nat}{ob:Option OB}:g03 ops o (σ.setOwn r ob)=g03 ops o σ:=rfl
theorem i03{ops:Array Oper}{o:Oper}{d:Option Tmp}(h:∀t,d=some t->t∉o.looksAt ops):∀x∈o.op.operands,∀t,d=some t->x ≠ .tmp t:=by
 intro x hx t ht e;refine h t ht ?_;subst e;simp only[Oper.looksAt,Cb,List.mem_filterMap];exact .inl ⟨.tmp t,by simpa using hx,rfl⟩
theorem F04{σ:St}{d d':Option Tmp}{s s':SV}(h:∀t,d=some t->d'≠some t):(σ.put d s).put d' s'=(σ.put d' s').put d s:=by
 cases d with
 | none=>rfl
 | some t=>cases d' with
   | none=>rfl
   | some t' =>
     have hne:t≠t':=λe=>h t rfl (by rw[e])
     simp only[St.put];congr 1;exact List.set_comm _ _ hne
theorem C06{σ:St}{r:Nat}{ob:Option OB}{d:Option Tmp}{s:SV}:(σ.put d s).setOwn r ob=(σ.setOwn r ob).put d s:=by cases d<;>rfl
theorem U0c{σ:St}{r r':Nat}{ob ob':Option OB}(h:r≠r'):(σ.setOwn r ob).setOwn r' ob'=(σ.setOwn r' ob').setOwn r ob:=by
 simp only[St.setOwn];congr 1;exact List.set_comm _ _ h
def B0j(o:Oper)(an:An):Bool :=
 match an.fl,an.sp,o.op with
 | 7,false,.fieldAddr _ _ _=>true
 | 7,false,.indexAddr _ _ _=>true
 | 5,false,.load _ _=>true
 | 2,false,.move _=>true
 | 2,false,.assign _=>true
 | _,_,_=>false
def e0p(ops:Array Oper)(y x:Oper×An):Bool :=
 Oper.apart ops x.1 y.1 &&
 match clsA y.2,clsA x.2 with
 | 0,0 => !(Nat.beq y.2.rt x.2.rt)||(!wrA y.2 && !wrA x.2)
 | 0,1=>true
 | 1,1=>true
 | 2,1=>true
 | 0,2=>true
 | 0,4=>true
 | 0,5=>B0j y.1 y.2 && !(Nat.beq y.2.rt x.2.rt)
 | 0,6 => !(Nat.beq y.2.rt x.2.rt)
 | _,_=>false
section swap
variable {P:Program} {Shp:l04} {ops:Array Oper} {oy ox:Oper} {ay ax:An} {σ:St} {V:View} {K:St->View->Prop}
theorem Y13(hap:ox.apart ops oy=true)(hy:clsA ay=0)(hx:clsA ax=0)(hrt:ay.rt≠ax.rt\/(wrA ay=false/\wrA ax=false))
 (h:I05 P Shp ops ay oy σ V λσ1 V1=>I05 P Shp ops ax ox σ1 V1 K):I05 P Shp ops ax ox σ V λσ1 V1=>I05 P Shp ops ay oy σ1 V1 K:=by
 obtain⟨hdx,hdd,hdy⟩:=Oper.apart_spec hap;obtain⟨sy,oby,hEy,h⟩:=d0p hy h;obtain⟨sx,obx,hEx,h⟩:=d0p hx h;rw[y04 hdy,C05,d0c]at hEx;have hEx:EA P Shp ax ox (g03 ops ox σ) σ.ev (σ.setOwn ay.rt oby).own[ax.rt]? V sx obx :=
  O0b (λx hx=>by rw[t0c (i03 hdy x hx),s09]) hEx
 have hown:(σ.setOwn ay.rt oby).own[ax.rt]?=σ.own[ax.rt]?:=by
  rcases hrt with h1|⟨h1,h2⟩
  . exact a0b h1
  rcases x0n h1 hEy with e|e
  . rw[m00 e]
  rw[Z0a e]
 rw[hown]at hEx;refine S0d hx hEx (S0d hy (s:=sy) (ob:=oby) ?_ ?_)
 . rw[y04 hdx,C05,d0c];have hown':(σ.setOwn ax.rt obx).own[ay.rt]?=σ.own[ay.rt]?:=by
    rcases hrt with h1|⟨h1,h2⟩
    . exact a0b (λe=>h1 e.symm)
    rcases x0n h2 hEx with e|e
    . rw[m00 e]
    rw[Z0a e]
   rw[hown'];exact O0b (λx hx=>by rw[t0c (i03 hdx x hx),s09]) hEy
 have e:(((σ.setOwn ax.rt obx).put ox.dst sx).setOwn ay.rt oby).put oy.dst sy=(((σ.setOwn ay.rt oby).put oy.dst sy).setOwn ax.rt obx).put ox.dst sx:=by
   rw[C06,C06,F04 hdd];congr 2;rcases hrt with h1|⟨h1,h2⟩
   . exact U0c (λe=>h1 e.symm)
   have ey:=x0n h1 hEy;have ex:=x0n h2 hEx;have:∀ {r:Nat} {b:Option OB} {τ:St},(τ.own[r]?=some b\/τ.own[r]?=none)->τ.setOwn r b=τ:=by
    intro r b τ hh; rcases hh with hh|hh
    . exact m00 hh
    exact Z0a hh
   rw[this ex,this ey,this ex]
 rw[e]; exact h
theorem C0j{o:Oper}{σ σ':St}{K K':St->View->Prop}(hev:∀x∈o.op.operands,σ.ev x=σ'.ev x)
 (hk:∀s V',V.le V'->V'.Fin->K (σ.put o.dst s) V'->K' (σ'.put o.dst s) V') (h:z0f P o σ V K):z0f P o σ' V K':=by
 revert h; unfold z0f;rw[q09 hev];split
 . intro h b V' hle hfin hb; exact hk _ _ hle hfin (h b V' hle hfin hb)
 exact id
theorem u0c{ts:List TypeId}{v:Value}{k k':SV->Prop}(hk:∀s,k s->k' s)(h:resT Shp ts v k):resT Shp ts v k':=by
 revert h; unfold resT;split
 . rintro⟨h1,h2⟩; exact⟨h1,hk _ h2⟩
 . rintro⟨x,h1,h2⟩; exact⟨x,h1,hk _ h2⟩
 . rintro⟨x,y,h1,h2⟩; exact⟨x,y,h1,hk _ h2⟩
 . rintro⟨x,y,z,h1,h2⟩; exact⟨x,y,z,h1,hk _ h2⟩
 . rintro⟨x,y,z,q,h1,h2⟩; exact⟨x,y,z,q,h1,hk _ h2⟩
 exact id
theorem P0f{o:Oper}{ev ev':Operand->SV}(hev:∀x∈o.op.operands,ev x=ev' x):t0n P o ev=t0n P o ev':=by
 unfold t0n;split
 . rename_i c hop;split
   . rename_i fo hcal;rw[hev fo (by simp[hop,Op.operands,Call.operands,hcal])];rw[w0a (ev:=ev) (ev':=ev') (l:=c.args.toList) (λx hx=>hev x (by simp at hx; simp[hop,Op.operands,Call.operands,hx]))]
   . rename_i r name hcal;rw[hev r (by simp[hop,Op.operands,Call.operands,hcal])];rw[w0a (ev:=ev) (ev':=ev') (l:=c.args.toList) (λx hx=>hev x (by simp at hx; simp[hop,Op.operands,Call.operands,hx]))]
   rfl
 rfl
theorem Y0l{sp:Bool}{o:Oper}{σ σ':St}{K K':St->View->Prop}(hev:∀x∈o.op.operands,σ.ev x=σ'.ev x)
 (hk:∀s V',V.le V'->V'.Fin->K (σ.put o.dst s) V'->K' (σ'.put o.dst s) V') (h:l0l P Shp sp o σ V K):l0l P Shp sp o σ' V K':=by
 revert h; unfold l0l;rw[P0f hev];split
 . intro h;exact h.mono' λv V' hle hfin hr=>u0c (λs hs=>N0b (λs' hs'=>hk s' V' hle hfin hs') hs) hr
 exact id
theorem b0t{f:FuncId}{args:Array Value}{V V':View}{R:Value->View->Prop}(hle:V.le V')(h:a00 P f args V R) :
 a00 P f args V' λv V2=>∃V1,View.le V1 V2/\View.le V V1/\R v V1:=by
 intro w hw;refine(h w (P0o hle hw)).mono λe w' ⟨v,V1,he,hl1,hin1,hf1,hb,hr⟩ => ?_;let V2:View:=λi=>match V' i with|some cs=>some cs|none=>V1 i
 have hinV':V'.In w':=by
  intro b cs hb';obtain⟨T,fr,hwb⟩:=hw b cs hb';refine⟨T,fr,?_⟩;rw[hb.block b (by
   rcases Ad b w.heap.size with h|h
   . exact h
   rw[Au h]at hwb; simp at hwb)]
  exact hwb
 refine⟨v,V2,he,?_,?_,?_,hb,V1,?_,hl1,hr⟩
 . intro b cs hb'; simp[V2,hb']
 . intro b cs hb';simp only[V2]at hb';split at hb'
   . rename_i ds hd; cases hb'; exact hinV' b _ hd
   exact hin1 b cs hb'
 . intro b cs hb';simp only[V2]at hb';split at hb'
   . rename_i ds hd; cases hb'; exact .inl hd
   rename_i hd;rcases hf1 b cs hb' with h1|h1
   . rw[hle b cs h1]at hd; simp at hd
   exact .inr h1
 intro b cs hb';simp only[V2];split
 . rename_i ds hd;obtain⟨T,fr,h1⟩:=hinV' b ds hd;obtain⟨T',fr',h2⟩:=hin1 b cs hb';rw[h1]at h2; simp at h2; simp[h2.1]
 exact hb'
theorem P0a{an:An}{o:Oper}(h:I05 P Shp ops an o σ V K) :
 (g03 ops o σ=some true/\actT P Shp an o σ V K)\/(g03 ops o σ=some false/\K (σ.put o.dst (.val undef)) V):=by
 unfold I05 at h;split at h
 . rename_i hg; exact .inl ⟨hg,h⟩
 . rename_i hg; exact .inr ⟨hg,h⟩
 exact h.elim
theorem W0c{an:An}{o:Oper}(hg:g03 ops o σ=some true)(h:actT P Shp an o σ V K):I05 P Shp ops an o σ V K:=by unfold I05; rw[hg]; exact h
theorem C08{an:An}{o:Oper}(hg:g03 ops o σ=some false)(h:K (σ.put o.dst (.val undef)) V):I05 P Shp ops an o σ V K:=by unfold I05; rw[hg]; exact h
theorem t0g{an:An}{o:Oper}(hcl:clsA an=1):actT P Shp an o σ V K=z0f P o σ V K:=by
 unfold actT;split
 all_goals first
  | rfl
  | (rename_i h; simp[clsA,h]at hcl; done)
  | (simp[clsA]at hcl; split at hcl<;>simp_all)
theorem j0j{an:An}{o:Oper}(hcl:clsA an=2):actT P Shp an o σ V K=l0l P Shp an.sp o σ V K:=by
 unfold actT;split
 all_goals first
  | rfl
  | (rename_i h; simp[clsA,h]at hcl; done)
  | (simp[clsA]at hcl; split at hcl<;>simp_all)
theorem B12{an:An}{o:Oper}(hcl:clsA an=5):actT P Shp an o σ V K=appT P an.rt o σ V K:=by
 unfold actT;split
 all_goals first
  | rfl
  | (rename_i h; simp[clsA,h]at hcl; done)
  | (simp[clsA]at hcl; split at hcl<;>simp_all)
theorem F0w{an:An}{o:Oper}(hcl:clsA an=4):(∀σ V K,actT P Shp an o σ V K=T0c P o σ V K)\/(∀σ V K,actT P Shp an o σ V K=u0r P o σ V K):=by
 have h:an.fl=15\/an.fl=17:=by
  simp[clsA]at hcl; split at hcl<;>simp_all
 rcases h with h|h
 . exact .inl λσ V K=>by unfold actT; rw[h]; rfl
 exact .inr λσ V K=>by unfold actT; rw[h]; rfl
theorem X0c{o:Oper}{x y:Operand}{e:TypeId}{sz bs:Nat}(h:appQ P o=some (x,y,e,sz,bs)):x∈o.op.operands/\y∈o.op.operands:=by
 obtain⟨t,i,z,hop,_⟩:=s0g h;simp[hop,Op.operands,Call.operands]
theorem u0g{o:Oper}{σ σ':St}{K K':St->View->Prop}(hev:∀x∈o.op.operands,σ.ev x=σ'.ev x)
 (hk:∀s V',V.le V'->V'.Fin->K (σ.put o.dst s) V'->K' (σ'.put o.dst s) V') (h:T0c P o σ V K):T0c P o σ' V K':=by
 revert h; unfold T0c;split
 . rename_i x y e sz bs hq;obtain⟨h1,h2⟩:=X0c hq;rw[hev x h1,hev y h2];split
   . rintro⟨e0,xs,vs,a1,a2,a3,a4,a5,a6,h⟩;exact⟨e0,xs,vs,a1,a2,a3,a4,a5,a6,λra rc V' b1 b2 b3 b4 b5=>hk _ V' b1 b2 (h ra rc V' b1 b2 b3 b4 b5)⟩
   exact id
 exact id
theorem Z0l{o:Oper}{σ σ':St}{K K':St->View->Prop}(hev:∀x∈o.op.operands,σ.ev x=σ'.ev x)
 (hk:∀s V',V.le V'->V'.Fin->K (σ.put o.dst s) V'->K' (σ'.put o.dst s) V') (h:u0r P o σ V K):u0r P o σ' V K':=by
 revert h; unfold u0r;split
 . rename_i t n c hop;rw[hev n (by simp[hop,Op.operands]),hev c (by simp[hop,Op.operands])];split
   . split
     . rintro⟨h1,h⟩;refine⟨h1,?_⟩;revert h;split
       . intro h b V' b1 b2 b3; exact hk _ V' b1 b2 (h b V' b1 b2 b3)
       exact id
     exact id
   exact id
 exact id
theorem C0r{an:An}(hcl:clsA an=4){o:Oper}{σ σ':St}{K K':St->View->Prop}(hev:∀x∈o.op.operands,σ.ev x=σ'.ev x)
 (hk:∀s V',V.le V'->V'.Fin->K (σ.put o.dst s) V'->K' (σ'.put o.dst s) V') (h:actT P Shp an o σ V K):actT P Shp an o σ' V K':=by
 rcases F0w (P:=P) (Shp:=Shp) (o:=o) hcl with e|e
 . rw[e]at h ⊢; exact u0g hev hk h
 rw[e]at h ⊢; exact Z0l hev hk h
theorem D0r{σ:St}{id:Nat}(x:Operand):(σ.kill id).ev x=O06 id (σ.ev x):=by
 cases x with
 | tmp t =>
   simp only[St.ev,St.kill,List.getD,Cd];cases σ.tm[t]?<;>rfl
 | const v=>rfl
 | global g=>rfl
 | func f=>rfl
theorem l0i{ops:Array Oper}{o:Oper}{σ:St}{id:Nat}:g03 ops o (σ.kill id)=g03 ops o σ:=by
 unfold g03;cases o.guard with
 | none=>rfl
 | some g =>
   obtain⟨j,want⟩:=g;simp only[];cases (ops[j]?).bind (·.dst)with
   | none=>rfl
   | some t =>
     simp only[];have:(σ.kill id).tm.getD t .any=O06 id (σ.tm.getD t .any):=D0r (.tmp t);rw[this];cases σ.tm.getD t .any with
     | lst i n c=>by_cases e:i=id<;>simp[O06,e]
     | les i n c=>by_cases e:i=id<;>simp[O06,e]
     | tlst i n c r=>by_cases e:i=id<;>simp[O06,e]
     | _=>rfl
theorem l0t{σ:St}{id r:Nat}:(σ.kill id).own[r]?=(σ.own[r]?).map (p0g id):=by simp[St.kill]
theorem m0t{σ:St}{id:Nat}{d:Option Tmp}{s:SV}:(σ.put d s).kill id=(σ.kill id).put d (O06 id s):=by
 cases d with
 | none=>rfl
 | some t=>simp[St.put,St.kill,Ga]
theorem D0j{σ:St}{id r:Nat}{ob:Option OB}:(σ.setOwn r ob).kill id=(σ.kill id).setOwn r (p0g id ob):=by simp[St.setOwn,St.kill,Ga]
theorem G0w{id:Nat}{an:An}{o:Oper}{g:Option Bool}{ev:Operand->SV}{blk:Option (Option OB)}{s:SV}{ob:Option OB}(hb:B0j o an=true)(h:EA P Shp an o g ev blk V s ob) :
 EA P Shp an o g (λx=>O06 id (ev x)) (blk.map (p0g id)) V (O06 id s) (p0g id ob):=by
 cases g with
 | none=>exact h
 | some g =>
   cases g with
   | false =>
     obtain⟨rfl,h⟩:=h;refine⟨rfl,?_⟩;rcases h with rfl|rfl
     . exact .inl rfl
     exact .inr rfl
   | true =>
     simp only[EA]at h ⊢;unfold B0j at hb;split at hb
     . rename_i hfl hsp hop;unfold a0a at h ⊢;rw[hfl]at h ⊢;cases blk with
       | none=>simp[H05,hop]at h
       | some b =>
         simp only[H05,hop,hsp,fin,Aw]at h ⊢;split at h
         . rename_i he hq;rw[he];simp only[O06,hq];obtain⟨rfl,rfl⟩:=h;exact⟨rfl,rfl⟩
         . rename_i he hq;rw[he];simp only[O06,hq];obtain⟨hpa,rfl,rfl⟩:=h;exact⟨hpa,rfl,rfl⟩
         exact h.elim
     . rename_i hfl hsp hop;unfold a0a at h ⊢;rw[hfl]at h ⊢;cases blk with
       | none=>simp[H05,hop]at h
       | some b =>
         simp only[H05,hop,hsp,fin,Aw]at h ⊢;split at h
         . rename_i he hi;rw[he,hi];simp only[O06];split at h
           . rename_i hE;split at h
             . rename_i hZ;obtain⟨h1,rfl,rfl⟩:=h;exact⟨h1,rfl,rfl⟩
             exact h.elim
           exact h.elim
         . rename_i he hi;rw[he,hi];simp only[O06];split at h
           . rename_i hE;split at h
             . rename_i hZ;obtain⟨h1,rfl,rfl⟩:=h;exact⟨h1,rfl,rfl⟩
             exact h.elim
           exact h.elim
         . rename_i he hi;rw[he,hi];simp only[O06];split at h
           . rename_i hE;split at h
             . rename_i hZ;obtain⟨h1,rfl,rfl⟩:=h;exact⟨h1,rfl,rfl⟩
             exact h.elim
           exact h.elim
         . rename_i he hi;rw[he,hi];simp only[O06];split at h
           . rename_i hE;split at h
             . rename_i hZ;obtain⟨h1,rfl,rfl⟩:=h;exact⟨h1,rfl,rfl⟩
             exact h.elim
           exact h.elim
         exact h.elim
     . rename_i hfl hsp hop;unfold a0a at h ⊢;rw[hfl]at h ⊢;cases blk with
       | none=>simp[y08,hop]at h
       | some b =>
         simp only[y08,hop,hsp,fin,Aw]at h ⊢;split at h
         . rename_i he;rw[he];simp only[O06];split at h
           . rename_i hA hZ;obtain⟨x,h1,h2,h⟩:=h;refine⟨x,h1,h2,?_⟩;split at h
             . rename_i hv;split at h
               . rename_i hq;obtain⟨rfl,rfl⟩:=h;exact⟨rfl,rfl⟩
               exact h.elim
             exact h.elim
           . rename_i hA;obtain⟨x,h1,rfl,rfl⟩:=h;exact⟨x,h1,rfl,rfl⟩
           exact h.elim
         exact h.elim
     . rename_i hfl hsp hop;unfold a0a at h ⊢;rw[hfl]at h ⊢;simp only[J07,hop,hsp,fin]at h ⊢;cases blk with
       | none=>exact h.elim
       | some b=>obtain⟨rfl,rfl⟩:=h; exact⟨rfl,rfl⟩
     . rename_i hfl hsp hop;unfold a0a at h ⊢;rw[hfl]at h ⊢;simp only[J07,hop,hsp,fin]at h ⊢;cases blk with
       | none=>exact h.elim
       | some b=>obtain⟨rfl,rfl⟩:=h; exact⟨rfl,rfl⟩
     simp at hb
theorem Z13(hap:ox.apart ops oy=true)(hb:B0j oy ay=true)(hx:clsA ax=5)(hrt:ay.rt≠ax.rt)
 (h:I05 P Shp ops ay oy σ V λσ1 V1=>I05 P Shp ops ax ox σ1 V1 K):I05 P Shp ops ax ox σ V λσ1 V1=>I05 P Shp ops ay oy σ1 V1 K:=by
 have hy:clsA ay=0:=by
  unfold B0j at hb; unfold clsA;split at hb
  . rename_i h _ _; rw[h]; rfl
  . rename_i h _ _; rw[h]; rfl
  . rename_i h _ _; rw[h]; rfl
  . rename_i h _ _; rw[h]; rfl
  . rename_i h _ _; rw[h]; rfl
  simp at hb
 obtain⟨hdx,hdd,hdy⟩:=Oper.apart_spec hap;obtain⟨sy,oby,hEy,h⟩:=d0p hy h;have hev:∀x∈ox.op.operands,((σ.setOwn ay.rt oby).put oy.dst sy).ev x=σ.ev x:=λx hx=>by rw[t0c (i03 hdy x hx),s09]
 have hg:g03 ops ox ((σ.setOwn ay.rt oby).put oy.dst sy)=g03 ops ox σ:=by rw[y04 hdy,C05]
 rcases P0a h with⟨g,h⟩|⟨g,h⟩
 . rw[hg]at g;refine W0c g ?_;rw[B12 hx]at h ⊢;unfold appT at h ⊢;split at h
   . rename_i x y e sz bs hq;obtain⟨m1,m2⟩:=X0c hq;rw[hev x m1,hev y m2,d0c,a0b hrt]at h;revert h;split
     . split
       . rintro⟨xs,vs,a1,a2,a3,a4,a5,a6,h⟩;refine⟨xs,vs,a1,a2,a3,a4,a5,a6,λcap' l' hok => ?_⟩;have hk:=h cap' l' hok;refine S0d hy (s:=O06 ax.rt sy) (ob:=p0g ax.rt oby) ?_ ?_
         . rw[y04 hdx,C05,l0i,d0c,a0b (λe=>hrt e.symm),l0t];refine O0b (λx hx => ?_) (G0w hb hEy);rw[t0c (i03 hdx x hx),s09,D0r]
         have e1:∀(X:SV) (L:Option OB),((((σ.kill ax.rt).setOwn ax.rt L).put ox.dst X).setOwn ay.rt (p0g ax.rt oby)).put oy.dst (O06 ax.rt sy) =
             ((((σ.setOwn ay.rt oby).put oy.dst sy).kill ax.rt).setOwn ax.rt L).put ox.dst X:=by
           intro X L;rw[m0t,D0j,C06 (σ:=(σ.kill ax.rt).setOwn ax.rt L),C06 (σ:=(σ.kill ax.rt).setOwn ay.rt (p0g ax.rt oby)),F04 hdd,U0c hrt]
         rw[e1]; exact hk
       exact λh=>h.elim
     . split
       . rintro⟨xs,vs,a1,a2,a3,a4,a5,a6,h⟩;refine⟨xs,vs,a1,a2,a3,a4,a5,a6,λcap' l' hok => ?_⟩;have hk:=h cap' l' hok;refine S0d hy (s:=O06 ax.rt sy) (ob:=p0g ax.rt oby) ?_ ?_
         . rw[y04 hdx,C05,l0i,d0c,a0b (λe=>hrt e.symm),l0t];refine O0b (λx hx => ?_) (G0w hb hEy);rw[t0c (i03 hdx x hx),s09,D0r]
         have e1:∀(X:SV) (L:Option OB),((((σ.kill ax.rt).setOwn ax.rt L).put ox.dst X).setOwn ay.rt (p0g ax.rt oby)).put oy.dst (O06 ax.rt sy) =
             ((((σ.setOwn ay.rt oby).put oy.dst sy).kill ax.rt).setOwn ax.rt L).put ox.dst X:=by
           intro X L;rw[m0t,D0j,C06 (σ:=(σ.kill ax.rt).setOwn ax.rt L),C06 (σ:=(σ.kill ax.rt).setOwn ay.rt (p0g ax.rt oby)),F04 hdd,U0c hrt]
         rw[e1]; exact hk
       exact λh=>h.elim
     exact λh=>h.elim
   exact h.elim
 rw[hg]at g;refine C08 g (S0d hy (s:=sy) (ob:=oby) ?_ ?_)
 . rw[y04 hdx,d0c];exact O0b (λx hx=>by rw[t0c (i03 hdx x hx)]) hEy
 rw[C06,F04 hdd]; exact h
theorem B0u{an:An}(hcl:clsA an=6):(∀o σ V K,actT P Shp an o σ V K=A0f P Shp an.sp an.rt o σ V K)\/(∀o σ V K,actT P Shp an o σ V K=m0l P an.rt o σ V K)\/(∀o σ V K,actT P Shp an o σ V K=o0g P an.rt o σ V K):=by
 have h:an.fl=24\/an.fl=25\/an.fl=26:=by
  simp[clsA]at hcl; split at hcl<;>simp_all
 rcases h with h|h|h
 . exact .inl λo σ V K=>by unfold actT; rw[h]; rfl
 . exact .inr (.inl λo σ V K=>by unfold actT; rw[h]; rfl)
 exact .inr (.inr λo σ V K=>by unfold actT; rw[h]; rfl)
theorem E0r{sp:Bool}{rt:Nat}{o:Oper}{σ σ':St}{K K':St->View->Prop}(hev:∀x∈o.op.operands,σ.ev x=σ'.ev x)(hown:σ.own[rt]?=σ'.own[rt]?)
 (hk:∀L s V',V.le V'->V'.Fin->K ((σ.setOwn rt L).put o.dst s) V'->K' ((σ'.setOwn rt L).put o.dst s) V') (h:A0f P Shp sp rt o σ V K):A0f P Shp sp rt o σ' V K':=by
 revert h; unfold A0f;rw[P0f hev,hown];split
 . intro h; exact h.mono λv m' V' hle hfin r=>u0c (λs=>N0b λs=>hk _ s V' hle hfin) r
 exact id
theorem C0u{rt:Nat}{o:Oper}{σ σ':St}{K K':St->View->Prop}(hev:∀x∈o.op.operands,σ.ev x=σ'.ev x)(hown:σ.own[rt]?=σ'.own[rt]?)
 (hk:∀L s,K ((σ.setOwn rt L).put o.dst s) V->K' ((σ'.setOwn rt L).put o.dst s) V) (h:m0l P rt o σ V K):m0l P rt o σ' V K':=by
 revert h; unfold m0l;rw[hown];split
 . rename_i x y e sz bs ty m hq hm;obtain⟨h1,h2⟩:=X0c hq;rw[hev x h1,hev y h2];split
   . rintro⟨xs,vs,a1,a2,a3,a4,a5,a6,a7,a8,h3,h4⟩;exact⟨xs,vs,a1,a2,a3,a4,a5,a6,a7,a8,h3,λra rc m' g=>hk _ _ (h4 ra rc m' g)⟩
   exact id
 exact id
theorem E0j{rt:Nat}{o:Oper}{σ σ':St}{K K':St->View->Prop}(hev:∀x∈o.op.operands,σ.ev x=σ'.ev x)(hown:σ.own[rt]?=σ'.own[rt]?)
 (hk:∀L s,K ((σ.setOwn rt L).put o.dst s) V->K' ((σ'.setOwn rt L).put o.dst s) V) (h:o0g P rt o σ V K):o0g P rt o σ' V K':=by
 revert h; unfold o0g;rw[hown];split
 . rename_i t n c hop;rw[hev n (by simp[hop,Op.operands]),hev c (by simp[hop,Op.operands])];split
   . split
     . split
       . rintro⟨h1,h⟩;refine⟨h1,?_⟩;revert h;split
         . intro h b b1 b2; exact hk _ _ (h b b1 b2)
         exact id
       exact id
     exact id
   exact id
 exact id
theorem a14(hap:ox.apart ops oy=true)(hy:clsA ay=0)(hx:clsA ax=6)(hrt:ay.rt≠ax.rt)
 (h:I05 P Shp ops ay oy σ V λσ1 V1=>I05 P Shp ops ax ox σ1 V1 K):I05 P Shp ops ax ox σ V λσ1 V1=>I05 P Shp ops ay oy σ1 V1 K:=by
 obtain⟨hdx,hdd,hdy⟩:=Oper.apart_spec hap;obtain⟨sy,oby,hEy,h⟩:=d0p hy h;have hfin:∀L s V',V.le V'->K ((((σ.setOwn ay.rt oby).put oy.dst sy).setOwn ax.rt L).put ox.dst s) V'->I05 P Shp ops ay oy ((σ.setOwn ax.rt L).put ox.dst s) V' K:=by
  intro L s V' hle hk;refine S0d hy (s:=sy) (ob:=oby) ?_ ?_
  . rw[y04 hdx,C05,d0c,a0b (λe=>hrt e.symm)];exact E0w hle (O0b (λx hx=>by rw[t0c (i03 hdx x hx),s09]) hEy)
  have e1:(((σ.setOwn ax.rt L).put ox.dst s).setOwn ay.rt oby).put oy.dst sy=(((σ.setOwn ay.rt oby).put oy.dst sy).setOwn ax.rt L).put ox.dst s:=by
    rw[C06 (σ:=σ.setOwn ax.rt L),C06 (σ:=σ.setOwn ay.rt oby),F04 hdd,U0c hrt]
  rw[e1]; exact hk
 have hev:∀x∈ox.op.operands,((σ.setOwn ay.rt oby).put oy.dst sy).ev x=σ.ev x:=λx hx=>by rw[t0c (i03 hdy x hx),s09]
 have hown:((σ.setOwn ay.rt oby).put oy.dst sy).own[ax.rt]?=σ.own[ax.rt]?:=by rw[d0c,a0b hrt]
 have hg:g03 ops ox ((σ.setOwn ay.rt oby).put oy.dst sy)=g03 ops ox σ:=by rw[y04 hdy,C05]
 rcases P0a h with⟨g,h⟩|⟨g,h⟩
 . rw[hg]at g;refine W0c g ?_;rcases B0u (P:=P) (Shp:=Shp) hx with hx|hx|hx
   . rw[hx]at h ⊢; exact E0r hev hown (λL s V' hle _=>hfin L s V' hle) h
   . rw[hx]at h ⊢; exact C0u hev hown (λL s=>hfin L s V (Gw V)) h
   rw[hx]at h ⊢; exact E0j hev hown (λL s=>hfin L s V (Gw V)) h
 rw[hg]at g;refine C08 g (S0d hy (s:=sy) (ob:=oby) ?_ ?_)
 . rw[y04 hdx,d0c];exact O0b (λx hx=>by rw[t0c (i03 hdx x hx)]) hEy
 rw[C06,F04 hdd]; exact h
theorem H0w(hap:ox.apart ops oy=true)(hy:clsA ay=0)(hx:clsA ax=1\/clsA ax=2\/clsA ax=4)
 (h:I05 P Shp ops ay oy σ V λσ1 V1=>I05 P Shp ops ax ox σ1 V1 K):I05 P Shp ops ax ox σ V λσ1 V1=>I05 P Shp ops ay oy σ1 V1 K:=by
 obtain⟨hdx,hdd,hdy⟩:=Oper.apart_spec hap;obtain⟨sy,oby,hEy,h⟩:=d0p hy h;have hfin:∀s V',V.le V'->K (((σ.setOwn ay.rt oby).put oy.dst sy).put ox.dst s) V'->I05 P Shp ops ay oy (σ.put ox.dst s) V' K:=by
  intro s V' hle hk;refine S0d hy (s:=sy) (ob:=oby) ?_ ?_
  . rw[y04 hdx,d0c];exact E0w hle (O0b (λx hx=>by rw[t0c (i03 hdx x hx)]) hEy)
  rw[C06,F04 hdd]; exact hk
 have hev:∀x∈ox.op.operands,((σ.setOwn ay.rt oby).put oy.dst sy).ev x=σ.ev x:=λx hx=>by rw[t0c (i03 hdy x hx),s09]
 have hg:g03 ops ox ((σ.setOwn ay.rt oby).put oy.dst sy)=g03 ops ox σ:=by rw[y04 hdy,C05]
 rcases P0a h with⟨g,h⟩|⟨g,h⟩
 . rw[hg]at g;refine W0c g ?_;rcases hx with hx|hx|hx
   . rw[t0g hx]at h ⊢; exact C0j hev (λs V' hle _=>hfin s V' hle) h
   . rw[j0j hx]at h ⊢; exact Y0l hev (λs V' hle _=>hfin s V' hle) h
   exact C0r hx hev (λs V' hle _=>hfin s V' hle) h
 rw[hg]at g;exact C08 g (hfin _ V (Gw V) h)
theorem F0j{an:An}{o:Oper}(hcl:clsA an=1){σ':St}(hg:g03 ops o σ'=g03 ops o σ)(hev:∀x∈o.op.operands,σ'.ev x=σ.ev x)(h:I05 P Shp ops an o σ' V K) :
 (g03 ops o σ=some true/\∃cells n,k0g P o σ.ev=some (cells,n)/\∀(b:Nat) (V':View),V.le V'->V'.Fin->V' b=some cells->K (σ'.put o.dst (.val (.slice (some ⟨b,0,none⟩) n n))) V') \/
 (g03 ops o σ=some false/\K (σ'.put o.dst (.val undef)) V):=by
 rcases P0a h with⟨g,h⟩|⟨g,h⟩
 . rw[hg]at g;rw[t0g hcl]at h;unfold z0f at h;rw[q09 hev]at h;split at h
   . rename_i cells n hC; exact .inl ⟨g,cells,n,hC,h⟩
   exact h.elim
 rw[hg]at g;exact .inr ⟨g,h⟩
theorem b0b{an:An}{o:Oper}(hcl:clsA an=1)(hg:g03 ops o σ=some true){cells:Array Value}{n:Nat}(hC:k0g P o σ.ev=some (cells,n))
 (h:∀(b:Nat) (V':View),V.le V'->V'.Fin->V' b=some cells->K (σ.put o.dst (.val (.slice (some ⟨b,0,none⟩) n n))) V'):I05 P Shp ops an o σ V K:=by
 refine W0c hg ?_;rw[t0g hcl];unfold z0f;rw[hC];exact h
theorem View.Fin.more{V:View}(h:V.Fin)(cells:Array Value):∃b V',View.le V V'/\V'.Fin/\V' b=some cells:=by
 obtain⟨n,hn⟩:=h;refine⟨n,λi=>if i=n then some cells else V i,A0b (hn n (An9 n)),⟨n+1,λb hb => ?_⟩,by simp⟩
 have:b≠n:=by omega
 simp[this,hn b (by omega)]
theorem I11(hV:V.Fin)(hap:ox.apart ops oy=true)(hy:clsA ay=1\/clsA ay=2)(hx:clsA ax=1)
 (h:I05 P Shp ops ay oy σ V λσ1 V1=>I05 P Shp ops ax ox σ1 V1 K):I05 P Shp ops ax ox σ V λσ1 V1=>I05 P Shp ops ay oy σ1 V1 K:=by
 obtain⟨hdx,hdd,hdy⟩:=Oper.apart_spec hap;have evx:∀s,∀x∈ox.op.operands,(σ.put oy.dst s).ev x=σ.ev x:=λs x hx=>t0c (i03 hdy x hx)
 have evy:∀s,∀x∈oy.op.operands,(σ.put ox.dst s).ev x=σ.ev x:=λs x hx=>t0c (i03 hdx x hx)
 have gx:∀s,g03 ops ox (σ.put oy.dst s)=g03 ops ox σ:=λs=>y04 hdy
 have gy:∀s,g03 ops oy (σ.put ox.dst s)=g03 ops oy σ:=λs=>y04 hdx
 rcases P0a h with⟨g,h⟩|⟨g,h⟩
 . rcases hy with hy|hy
   . rw[t0g hy]at h;unfold z0f at h;split at h
     . rename_i cy ny hCy;obtain⟨b0,V0,hle0,hfin0,hb0⟩:=hV.more cy;rcases F0j hx (gx _) (evx _) (h b0 V0 hle0 hfin0 hb0)with⟨gX,cx,nx,hCx,_⟩|⟨gX,_⟩
       . refine b0b hx gX hCx λb V' hle hfin hb => ?_;refine b0b hy (by rw[gy]; exact g) (by rw[q09 (evy _)]; exact hCy) λb2 V2 hle2 hfin2 hb2 => ?_;rcases F0j hx (gx _) (evx _) (h b2 V2 (Gx hle hle2) hfin2 hb2)with⟨_,cx',nx',hCx',hk⟩|⟨gX',_⟩
         . rw[hCx]at hCx'; cases hCx';have:=hk b V2 (Gw _) hfin2 (hle2 _ _ hb);rw[F04 hdd]; exact this
         rw[gX]at gX'; cases gX'
       refine C08 gX ?_;refine b0b hy (by rw[gy]; exact g) (by rw[q09 (evy _)]; exact hCy) λb2 V2 hle2 hfin2 hb2 => ?_;rcases F0j hx (gx _) (evx _) (h b2 V2 hle2 hfin2 hb2)with⟨gX',_⟩|⟨_,hk⟩
       . rw[gX]at gX'; cases gX'
       rw[F04 hdd]; exact hk
     exact h.elim
   rw[j0j hy]at h;unfold l0l at h;split at h
   . rename_i f vs hq;have hq':∀s,t0n P oy (σ.put ox.dst s).ev=some (f,vs):=λs=>by rw[P0f (evy s)]; exact hq
     obtain⟨v0,V0,hle0,hfin0,hr0⟩:=h.inst hV;obtain⟨s0,hk0,_⟩:=H11 (q0g hr0);have hcall:∀s V',V.le V'->V'.Fin->(∀s' V1 V2,V.le V1->V1.le V2->V'.le V2->V2.Fin->I05 P Shp ops ax ox (σ.put oy.dst s') V1 K->K ((σ.put ox.dst s).put oy.dst s') V2) ->
      I05 P Shp ops ay oy (σ.put ox.dst s) V' K:=by
      intro s V' hle hfin hK;refine W0c (by rw[gy]; exact g) ?_;rw[j0j hy];unfold l0l;rw[hq' s];refine(b0t hle h).mono' λv V2 hle2 hfin2 ⟨V1,hl12,hl1,hr⟩ => ?_;exact u0c (λs hs=>N0b (λs' hs'=>hK s' V1 V2 hl1 hl12 hle2 hfin2 hs') hs) hr
     rcases F0j hx (gx _) (evx _) hk0 with⟨gX,cx,nx,hCx,_⟩|⟨gX,_⟩
     . refine b0b hx gX hCx λb V' hle hfin hb=>hcall _ V' hle hfin λs' V1 V2 hl1 hl12 hl2 hfin2 hs => ?_;rcases F0j hx (gx _) (evx _) hs with⟨_,cx',nx',hCx',hk⟩|⟨gX',_⟩
       . rw[hCx]at hCx'; cases hCx';have:=hk b V2 hl12 hfin2 (hl2 _ _ hb);rw[F04 hdd]; exact this
       rw[gX]at gX'; cases gX'
     refine C08 gX (W0c (by rw[gy]; exact g) ?_);rw[j0j hy];unfold l0l;rw[hq' (.val undef)];refine h.mono' λv V1 hl1 hf1 hr=>u0c (λs hs=>N0b (λs' hs' => ?_) hs) hr;rcases F0j hx (gx _) (evx _) hs' with⟨gX',_⟩|⟨_,hk⟩
     . rw[gX]at gX'; cases gX'
     rw[F04 hdd]; exact hk
   exact h.elim
 rcases F0j hx (gx _) (evx _) h with⟨gX,cx,nx,hCx,hk⟩|⟨gX,hk⟩
 . refine b0b hx gX hCx λb V' hle hfin hb=>C08 (by rw[gy]; exact g) ?_;rw[F04 hdd]; exact hk b V' hle hfin hb
 refine C08 gX (C08 (by rw[gy]; exact g) ?_);rw[F04 hdd]; exact hk
end swap
