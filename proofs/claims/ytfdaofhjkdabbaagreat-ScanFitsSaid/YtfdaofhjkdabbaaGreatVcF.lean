/- Part. -/
import Derived.Test.YtfdaofhjkdabbaaGreatVcE
namespace Go.Vc
open Go Go.RowKit
def wrA (an:An):Bool:=an.fl==3||an.fl==6||an.fl==16||an.fl==23
def clsA (an:An):Nat:=match an.fl with|10=>2|11=>1|13=>5|14=>3|15=>4|17=>4|18=>3|19=>3|21=>3|24=>6|25=>6|26=>6|_=>0
theorem j0v {sp:Bool} {s:SV} {k:SV→Prop} (h:fin sp s k):∃s',k s'∧fin sp s (fun t=>t=s'):=by
 revert h; unfold fin
 split
 · intro h; exact⟨_,h,rfl⟩
 · split
   · intro h; exact⟨_,h,rfl⟩
   · rename_i b
     intro h
     cases b with
     | true=>exact⟨_,h.1 rfl,⟨fun _=>rfl,by simp⟩⟩
     | false=>exact⟨_,h.2 rfl,⟨by simp,fun _=>rfl⟩⟩
   · intro h; exact h.elim
theorem a0a {sp:Bool} {s:SV} {k k':SV→Prop} (hk:∀s,k s→k' s) (h:fin sp s k):fin sp s k':=by
 revert h; unfold fin
 split
 · exact hk _
 · split
   · exact hk _
   · intro h; exact⟨fun e=>hk _ (h.1 e),fun e=>hk _ (h.2 e)⟩
   · exact id
def EA (P:Program) (Shp:S04) (an:An) (o:Oper) (g:Option Bool) (ev:Operand→SV) (blk:Option (Option OB)) (V:View) (s:SV) (ob:Option OB):Prop :=
 match g with
 | some true=>S08 P Shp V an o ev blk fun s0 ob0=>fin an.sp s0 (fun s1=>s1=s)∧ob0=ob
 | some false=>s = .val undef∧(blk=some ob∨blk=none)
 | none=>False
theorem F09 {σ:St} {rt:Nat} {b:Option OB} (h:σ.own[rt]?=none):σ.setOwn rt b=σ:=by
 unfold St.setOwn
 congr 1
 have:σ.own.length≤rt:=by
  rcases Nat.lt_or_ge rt σ.own.length with h'|h'
  · rw[List.getElem?_eq_getElem h']at h; simp at h
  · exact h'
 exact List.set_eq_of_length_le this
theorem B0p {P:Program} {Shp an o σ V} {K:St→View→Prop} (hcl:clsA an=0) :
 actT P Shp an o σ V K=S08 P Shp V an o σ.ev σ.own[an.rt]? fun s ob=>fin an.sp s fun s=>K ((σ.setOwn an.rt ob).put o.dst s) V:=by
 unfold actT
 split
 all_goals first
  | rfl
  | (rename_i h; simp[clsA,h]at hcl; done)
theorem j0m {P:Program} {Shp ops an o σ V} {K:St→View→Prop} (hcl:clsA an=0) (h:Z04 P Shp ops an o σ V K) :
 ∃s ob,EA P Shp an o (L02 ops o σ) σ.ev σ.own[an.rt]? V s ob∧K ((σ.setOwn an.rt ob).put o.dst s) V:=by
 unfold Z04 at h
 split at h
 · rename_i hg
   rw[B0p hcl]at h
   obtain⟨s,ob,hk,hc⟩:=A0p h
   obtain⟨s',hk',hf⟩:=j0v hk
   refine⟨s',ob,?_,hk'⟩
   rw[hg]
   exact P0f (fun s0 ob0 ⟨e1,e2⟩=>⟨by rw[e1]; exact hf,e2⟩) hc
 · rename_i hg
   cases hb:σ.own[an.rt]? with
   | none=>exact⟨.val undef,none,by rw[hg]; exact⟨rfl,.inr rfl⟩,by rw[F09 hb]; exact h⟩
   | some b=>exact⟨.val undef,b,by rw[hg]; exact⟨rfl,.inl rfl⟩,by rw[e00 hb]; exact h⟩
 · exact h.elim
theorem u0c {P:Program} {Shp ops an o σ V s ob} {K:St→View→Prop} (hcl:clsA an=0) (h:EA P Shp an o (L02 ops o σ) σ.ev σ.own[an.rt]? V s ob)
 (hk:K ((σ.setOwn an.rt ob).put o.dst s) V):Z04 P Shp ops an o σ V K:=by
 unfold Z04
 cases hg:L02 ops o σ with
 | none=>rw[hg]at h; exact h.elim
 | some g =>
   rw[hg]at h
   cases g with
   | true =>
     simp only[]
     rw[B0p hcl]
     refine P0f (fun s0 ob0 ⟨h1,h2⟩ => ?_) h
     subst h2
     exact a0a (fun s1 e=>by rw[e]; exact hk) h1
   | false =>
     simp only[]
     obtain⟨rfl,hb⟩:=h
     rcases hb with hb|hb
     · rw[e00 hb]at hk; exact hk
     · rw[F09 hb]at hk; exact hk
theorem w0s {P:Program} {Shp an o g ev blk V V' s ob} (hV:View.le V V') (h:EA P Shp an o g ev blk V s ob):EA P Shp an o g ev blk V' s ob:=by
 cases g with
 | none=>exact h
 | some g=>cases g with
   | true=>exact C0q hV h
   | false=>exact h
theorem b0a {P:Program} {Shp an o g ev ev' blk V s ob} (hev:∀x∈o.op.operands,ev x=ev' x) (h:EA P Shp an o g ev blk V s ob):EA P Shp an o g ev' blk V s ob:=by
 cases g with
 | none=>exact h
 | some g=>cases g with
   | true=>exact j0o hev h
   | false=>exact h
theorem x0k {P:Program} {Shp an o g ev blk V s ob} (hw:wrA an=false) (h:EA P Shp an o g ev blk V s ob):blk=some ob∨blk=none:=by
 cases g with
 | none=>exact h.elim
 | some g=>cases g with
   | false=>exact h.2
   | true =>
     cases blk with
     | none=>exact .inr rfl
     | some b =>
       have h3:an.fl≠3:=by intro e; simp[wrA,e]at hw
       have h6:an.fl≠6:=by intro e; simp[wrA,e]at hw
       have h16:an.fl≠16:=by intro e; simp[wrA,e]at hw
       have h23:an.fl≠23:=by intro e; simp[wrA,e]at hw
       obtain⟨s0,ob0,⟨rfl,_,rfl⟩,_⟩:=A0p (D0q h3 h6 h16 h23 h)
       exact .inl rfl
theorem G09 {σ:St} {r r':Nat} {ob:Option OB} (h:r≠r'):(σ.setOwn r ob).own[r']?=σ.own[r']?:=by
 simp[St.setOwn,List.getElem?_set_ne h]
theorem s0a {σ:St} {d:Option Tmp} {s:SV}:(σ.put d s).own=σ.own:=by cases d<;>rfl
theorem L0a {σ:St} {d:Option Tmp} {s:SV} {x:Operand} (h:∀t,d=some t→x ≠ .tmp t):(σ.put d s).ev x=σ.ev x:=by
 cases d with
 | none=>rfl
 | some t =>
   cases x with
   | tmp u =>
     have hne:t≠u:=fun e=>h t rfl (e▸rfl)
     simp[St.ev,St.put,List.getD,List.getElem?_set_ne hne]
   | const v=>rfl
   | global g=>rfl
   | func f=>rfl
theorem A08 {σ:St} {r:Nat} {ob:Option OB} {x:Operand}:(σ.setOwn r ob).ev x=σ.ev x:=by cases x<;>rfl
theorem W03 {ops:Array Oper} {o:Oper} {σ:St} {d:Option Tmp} {s:SV} (h:∀t,d=some t→t∉o.looksAt ops):L02 ops o (σ.put d s)=L02 ops o σ:=by
 unfold L02
 cases hg:o.guard with
 | none=>rfl
 | some g =>
   obtain⟨j,want⟩:=g
   simp only[]
   cases ht:(ops[j]?).bind (·.dst)with
   | none=>rfl
   | some t =>
     simp only[]
     cases d with
     | none=>rfl
     | some u =>
       have hne:u≠t:=by
        rintro rfl
        refine h u rfl ?_
        simp[Oper.looksAt,hg,ht]
       have:(σ.put (some u) s).tm.getD t .any=σ.tm.getD t .any:=by simp[St.put,List.getD,List.getElem?_set_ne hne]
       rw[this]
theorem T04 {ops:Array Oper} {o:Oper} {σ:St} {r:Nat} {ob:Option OB}:L02 ops o (σ.setOwn r ob)=L02 ops o σ:=rfl
theorem M02 {ops:Array Oper} {o:Oper} {d:Option Tmp} (h:∀t,d=some t→t∉o.looksAt ops):∀x∈o.op.operands,∀t,d=some t→x ≠ .tmp t:=by
 intro x hx t ht e
 refine h t ht ?_
 subst e
 simp only[Oper.looksAt,List.mem_append,List.mem_filterMap]
 exact .inl ⟨.tmp t,by simpa using hx,rfl⟩
theorem d04 {σ:St} {d d':Option Tmp} {s s':SV} (h:∀t,d=some t→d'≠some t):(σ.put d s).put d' s'=(σ.put d' s').put d s:=by
 cases d with
 | none=>rfl
 | some t=>cases d' with
   | none=>rfl
   | some t' =>
     have hne:t≠t':=fun e=>h t rfl (by rw[e])
     simp only[St.put]
     congr 1
     exact List.set_comm _ _ hne
theorem J05 {σ:St} {r:Nat} {ob:Option OB} {d:Option Tmp} {s:SV}:(σ.put d s).setOwn r ob=(σ.setOwn r ob).put d s:=by cases d<;>rfl
theorem o0b {σ:St} {r r':Nat} {ob ob':Option OB} (h:r≠r'):(σ.setOwn r ob).setOwn r' ob'=(σ.setOwn r' ob').setOwn r ob:=by
 simp only[St.setOwn]
 congr 1
 exact List.set_comm _ _ h
def C0h (o:Oper) (an:An):Bool :=
 match an.fl,an.sp,o.op with
 | 7,false,.fieldAddr _ _ _=>true
 | 7,false,.indexAddr _ _ _=>true
 | 5,false,.load _ _=>true
 | 2,false,.move _=>true
 | 2,false,.assign _=>true
 | _,_,_=>false
def k0m (ops:Array Oper) (y x:Oper×An):Bool :=
 Oper.apart ops x.1 y.1 &&
 match clsA y.2,clsA x.2 with
 | 0,0 => !(Nat.beq y.2.rt x.2.rt)||(!wrA y.2 && !wrA x.2)
 | 0,1=>true
 | 1,1=>true
 | 2,1=>true
 | 0,2=>true
 | 0,4=>true
 | 0,5=>C0h y.1 y.2 && !(Nat.beq y.2.rt x.2.rt)
 | 0,6 => !(Nat.beq y.2.rt x.2.rt)
 | _,_=>false
section swap
variable {P:Program} {Shp:S04} {ops:Array Oper} {oy ox:Oper} {ay ax:An} {σ:St} {V:View} {K:St→View→Prop}
theorem s0w (hap:ox.apart ops oy=true) (hy:clsA ay=0) (hx:clsA ax=0) (hrt:ay.rt≠ax.rt∨(wrA ay=false∧wrA ax=false))
 (h:Z04 P Shp ops ay oy σ V fun σ1 V1=>Z04 P Shp ops ax ox σ1 V1 K):Z04 P Shp ops ax ox σ V fun σ1 V1=>Z04 P Shp ops ay oy σ1 V1 K:=by
 obtain⟨hdx,hdd,hdy⟩:=Oper.apart_spec hap
 obtain⟨sy,oby,hEy,h⟩:=j0m hy h
 obtain⟨sx,obx,hEx,h⟩:=j0m hx h
 rw[W03 hdy,T04,s0a]at hEx
 have hEx:EA P Shp ax ox (L02 ops ox σ) σ.ev (σ.setOwn ay.rt oby).own[ax.rt]? V sx obx :=
  b0a (fun x hx=>by rw[L0a (M02 hdy x hx),A08]) hEx
 have hown:(σ.setOwn ay.rt oby).own[ax.rt]?=σ.own[ax.rt]?:=by
  rcases hrt with h1|⟨h1,h2⟩
  · exact G09 h1
  · rcases x0k h1 hEy with e|e
    · rw[e00 e]
    · rw[F09 e]
 rw[hown]at hEx
 refine u0c hx hEx (u0c hy (s:=sy) (ob:=oby) ?_ ?_)
 · rw[W03 hdx,T04,s0a]
   have hown':(σ.setOwn ax.rt obx).own[ay.rt]?=σ.own[ay.rt]?:=by
    rcases hrt with h1|⟨h1,h2⟩
    · exact G09 (fun e=>h1 e.symm)
    · rcases x0k h2 hEx with e|e
      · rw[e00 e]
      · rw[F09 e]
   rw[hown']
   exact b0a (fun x hx=>by rw[L0a (M02 hdx x hx),A08]) hEy
 · have e:(((σ.setOwn ax.rt obx).put ox.dst sx).setOwn ay.rt oby).put oy.dst sy=(((σ.setOwn ay.rt oby).put oy.dst sy).setOwn ax.rt obx).put ox.dst sx:=by
     rw[J05,J05,d04 hdd]
     congr 2
     rcases hrt with h1|⟨h1,h2⟩
     · exact o0b (fun e=>h1 e.symm)
     · have ey:=x0k h1 hEy
       have ex:=x0k h2 hEx
       have:∀ {r:Nat} {b:Option OB} {τ:St},(τ.own[r]?=some b∨τ.own[r]?=none)→τ.setOwn r b=τ:=by
        intro r b τ hh; rcases hh with hh|hh
        · exact e00 hh
        · exact F09 hh
       rw[this ex,this ey,this ex]
   rw[e]; exact h
theorem D0h {o:Oper} {σ σ':St} {K K':St→View→Prop} (hev:∀x∈o.op.operands,σ.ev x=σ'.ev x)
 (hk:∀s V',V.le V'→V'.Fin→K (σ.put o.dst s) V'→K' (σ'.put o.dst s) V') (h:O0d P o σ V K):O0d P o σ' V K':=by
 revert h; unfold O0d
 rw[z08 hev]
 split
 · intro h b V' hle hfin hb; exact hk _ _ hle hfin (h b V' hle hfin hb)
 · exact id
theorem M0a {ts:List TypeId} {v:Value} {k k':SV→Prop} (hk:∀s,k s→k' s) (h:resT Shp ts v k):resT Shp ts v k':=by
 revert h; unfold resT
 split
 · rintro⟨h1,h2⟩; exact⟨h1,hk _ h2⟩
 · rintro⟨x,h1,h2⟩; exact⟨x,h1,hk _ h2⟩
 · rintro⟨x,y,h1,h2⟩; exact⟨x,y,h1,hk _ h2⟩
 · rintro⟨x,y,z,h1,h2⟩; exact⟨x,y,z,h1,hk _ h2⟩
 · rintro⟨x,y,z,q,h1,h2⟩; exact⟨x,y,z,q,h1,hk _ h2⟩
 · exact id
theorem p0e {o:Oper} {ev ev':Operand→SV} (hev:∀x∈o.op.operands,ev x=ev' x):t0k P o ev=t0k P o ev':=by
 unfold t0k
 split
 · rename_i c hop
   split
   · rename_i fo hcal
     rw[hev fo (by simp[hop,Op.operands,Call.operands,hcal])]
     rw[f09 (ev:=ev) (ev':=ev') (l:=c.args.toList) (fun x hx=>hev x (by simp at hx; simp[hop,Op.operands,Call.operands,hx]))]
   · rename_i r name hcal
     rw[hev r (by simp[hop,Op.operands,Call.operands,hcal])]
     rw[f09 (ev:=ev) (ev':=ev') (l:=c.args.toList) (fun x hx=>hev x (by simp at hx; simp[hop,Op.operands,Call.operands,hx]))]
   · rfl
 · rfl
theorem I0j {sp:Bool} {o:Oper} {σ σ':St} {K K':St→View→Prop} (hev:∀x∈o.op.operands,σ.ev x=σ'.ev x)
 (hk:∀s V',V.le V'→V'.Fin→K (σ.put o.dst s) V'→K' (σ'.put o.dst s) V') (h:M0i P Shp sp o σ V K):M0i P Shp sp o σ' V K':=by
 revert h; unfold M0i
 rw[p0e hev]
 split
 · intro h
   exact h.mono' fun v V' hle hfin hr=>M0a (fun s hs=>a0a (fun s' hs'=>hk s' V' hle hfin hs') hs) hr
 · exact id
theorem x0p {f:FuncId} {args:Array Value} {V V':View} {R:Value→View→Prop} (hle:V.le V') (h:a00 P f args V R) :
 a00 P f args V' fun v V2=>∃V1,View.le V1 V2∧View.le V V1∧R v V1:=by
 intro w hw
 refine(h w (X0l hle hw)).mono fun e w' ⟨v,V1,he,hl1,hin1,hf1,hb,hr⟩ => ?_
 let V2:View:=fun i=>match V' i with|some cs=>some cs|none=>V1 i
 have hinV':V'.In w':=by
  intro b cs hb'
  obtain⟨T,fr,hwb⟩:=hw b cs hb'
  refine⟨T,fr,?_⟩
  rw[hb.block b (by
   rcases Nat.lt_or_ge b w.heap.size with h|h
   · exact h
   · rw[Array.getElem?_eq_none h]at hwb; simp at hwb)]
  exact hwb
 refine⟨v,V2,he,?_,?_,?_,hb,V1,?_,hl1,hr⟩
 · intro b cs hb'; simp[V2,hb']
 · intro b cs hb'
   simp only[V2]at hb'
   split at hb'
   · rename_i ds hd; cases hb'; exact hinV' b _ hd
   · exact hin1 b cs hb'
 · intro b cs hb'
   simp only[V2]at hb'
   split at hb'
   · rename_i ds hd; cases hb'; exact .inl hd
   · rename_i hd
     rcases hf1 b cs hb' with h1|h1
     · rw[hle b cs h1]at hd; simp at hd
     · exact .inr h1
 · intro b cs hb'
   simp only[V2]
   split
   · rename_i ds hd
     obtain⟨T,fr,h1⟩:=hinV' b ds hd
     obtain⟨T',fr',h2⟩:=hin1 b cs hb'
     rw[h1]at h2; simp at h2; simp[h2.1]
   · exact hb'
theorem A09 {an:An} {o:Oper} (h:Z04 P Shp ops an o σ V K) :
 (L02 ops o σ=some true∧actT P Shp an o σ V K)∨(L02 ops o σ=some false∧K (σ.put o.dst (.val undef)) V):=by
 unfold Z04 at h
 split at h
 · rename_i hg; exact .inl ⟨hg,h⟩
 · rename_i hg; exact .inr ⟨hg,h⟩
 · exact h.elim
theorem p0b {an:An} {o:Oper} (hg:L02 ops o σ=some true) (h:actT P Shp an o σ V K):Z04 P Shp ops an o σ V K:=by unfold Z04; rw[hg]; exact h
theorem t07 {an:An} {o:Oper} (hg:L02 ops o σ=some false) (h:K (σ.put o.dst (.val undef)) V):Z04 P Shp ops an o σ V K:=by unfold Z04; rw[hg]; exact h
theorem Q0e {an:An} {o:Oper} (hcl:clsA an=1):actT P Shp an o σ V K=O0d P o σ V K:=by
 unfold actT
 split
 all_goals first
  | rfl
  | (rename_i h; simp[clsA,h]at hcl; done)
  | (simp[clsA]at hcl; split at hcl<;>simp_all)
theorem l0h {an:An} {o:Oper} (hcl:clsA an=2):actT P Shp an o σ V K=M0i P Shp an.sp o σ V K:=by
 unfold actT
 split
 all_goals first
  | rfl
  | (rename_i h; simp[clsA,h]at hcl; done)
  | (simp[clsA]at hcl; split at hcl<;>simp_all)
theorem G0v {an:An} {o:Oper} (hcl:clsA an=5):actT P Shp an o σ V K=appT P an.rt o σ V K:=by
 unfold actT
 split
 all_goals first
  | rfl
  | (rename_i h; simp[clsA,h]at hcl; done)
  | (simp[clsA]at hcl; split at hcl<;>simp_all)
theorem x0s {an:An} {o:Oper} (hcl:clsA an=4):(∀σ V K,actT P Shp an o σ V K=n0b P o σ V K)∨(∀σ V K,actT P Shp an o σ V K=c0o P o σ V K):=by
 have h:an.fl=15∨an.fl=17:=by
  simp[clsA]at hcl; split at hcl<;>simp_all
 rcases h with h|h
 · exact .inl fun σ V K=>by unfold actT; rw[h]; rfl
 · exact .inr fun σ V K=>by unfold actT; rw[h]; rfl
theorem q0b {o:Oper} {x y:Operand} {e:TypeId} {sz bs:Nat} (h:appQ P o=some (x,y,e,sz,bs)):x∈o.op.operands∧y∈o.op.operands:=by
 obtain⟨t,i,z,hop,_⟩:=P0e h
 simp[hop,Op.operands,Call.operands]
theorem S0e {o:Oper} {σ σ':St} {K K':St→View→Prop} (hev:∀x∈o.op.operands,σ.ev x=σ'.ev x)
 (hk:∀s V',V.le V'→V'.Fin→K (σ.put o.dst s) V'→K' (σ'.put o.dst s) V') (h:n0b P o σ V K):n0b P o σ' V K':=by
 revert h; unfold n0b
 split
 · rename_i x y e sz bs hq
   obtain⟨h1,h2⟩:=q0b hq
   rw[hev x h1,hev y h2]
   split
   · rintro⟨e0,xs,vs,a1,a2,a3,a4,a5,a6,h⟩
     exact⟨e0,xs,vs,a1,a2,a3,a4,a5,a6,fun ra rc V' b1 b2 b3 b4 b5=>hk _ V' b1 b2 (h ra rc V' b1 b2 b3 b4 b5)⟩
   · exact id
 · exact id
theorem J0j {o:Oper} {σ σ':St} {K K':St→View→Prop} (hev:∀x∈o.op.operands,σ.ev x=σ'.ev x)
 (hk:∀s V',V.le V'→V'.Fin→K (σ.put o.dst s) V'→K' (σ'.put o.dst s) V') (h:c0o P o σ V K):c0o P o σ' V K':=by
 revert h; unfold c0o
 split
 · rename_i t n c hop
   rw[hev n (by simp[hop,Op.operands]),hev c (by simp[hop,Op.operands])]
   split
   · split
     · rintro⟨h1,h⟩
       refine⟨h1,?_⟩
       revert h
       split
       · intro h b V' b1 b2 b3; exact hk _ V' b1 b2 (h b V' b1 b2 b3)
       · exact id
     · exact id
   · exact id
 · exact id
theorem k0o {an:An} (hcl:clsA an=4) {o:Oper} {σ σ':St} {K K':St→View→Prop} (hev:∀x∈o.op.operands,σ.ev x=σ'.ev x)
 (hk:∀s V',V.le V'→V'.Fin→K (σ.put o.dst s) V'→K' (σ'.put o.dst s) V') (h:actT P Shp an o σ V K):actT P Shp an o σ' V K':=by
 rcases x0s (P:=P) (Shp:=Shp) (o:=o) hcl with e|e
 · rw[e]at h ⊢; exact S0e hev hk h
 · rw[e]at h ⊢; exact J0j hev hk h
theorem l0o {σ:St} {id:Nat} (x:Operand):(σ.kill id).ev x=a06 id (σ.ev x):=by
 cases x with
 | tmp t =>
   simp only[St.ev,St.kill,List.getD,List.getElem?_map]
   cases σ.tm[t]?<;>rfl
 | const v=>rfl
 | global g=>rfl
 | func f=>rfl
theorem u0g {ops:Array Oper} {o:Oper} {σ:St} {id:Nat}:L02 ops o (σ.kill id)=L02 ops o σ:=by
 unfold L02
 cases o.guard with
 | none=>rfl
 | some g =>
   obtain⟨j,want⟩:=g
   simp only[]
   cases (ops[j]?).bind (·.dst)with
   | none=>rfl
   | some t =>
     simp only[]
     have:(σ.kill id).tm.getD t .any=a06 id (σ.tm.getD t .any):=l0o (.tmp t)
     rw[this]
     cases σ.tm.getD t .any with
     | lst i n c=>by_cases e:i=id<;>simp[a06,e]
     | les i n c=>by_cases e:i=id<;>simp[a06,e]
     | tlst i n c r=>by_cases e:i=id<;>simp[a06,e]
     | _=>rfl
theorem C0p {σ:St} {id r:Nat}:(σ.kill id).own[r]?=(σ.own[r]?).map (N0e id):=by simp[St.kill]
theorem D0p {σ:St} {id:Nat} {d:Option Tmp} {s:SV}:(σ.put d s).kill id=(σ.kill id).put d (a06 id s):=by
 cases d with
 | none=>rfl
 | some t=>simp[St.put,St.kill,List.map_set]
theorem E0h {σ:St} {id r:Nat} {ob:Option OB}:(σ.setOwn r ob).kill id=(σ.kill id).setOwn r (N0e id ob):=by simp[St.setOwn,St.kill,List.map_set]
theorem y0s {id:Nat} {an:An} {o:Oper} {g:Option Bool} {ev:Operand→SV} {blk:Option (Option OB)} {s:SV} {ob:Option OB} (hb:C0h o an=true) (h:EA P Shp an o g ev blk V s ob) :
 EA P Shp an o g (fun x=>a06 id (ev x)) (blk.map (N0e id)) V (a06 id s) (N0e id ob):=by
 cases g with
 | none=>exact h
 | some g =>
   cases g with
   | false =>
     obtain⟨rfl,h⟩:=h
     refine⟨rfl,?_⟩
     rcases h with rfl|rfl
     · exact .inl rfl
     · exact .inr rfl
   | true =>
     simp only[EA]at h ⊢
     unfold C0h at hb
     split at hb
     · rename_i hfl hsp hop
       unfold S08 at h ⊢
       rw[hfl]at h ⊢
       cases blk with
       | none=>simp[Y04,hop]at h
       | some b =>
         simp only[Y04,hop,hsp,fin,Option.map_some]at h ⊢
         split at h
         · rename_i he hq
           rw[he]
           simp only[a06,hq]
           obtain⟨rfl,rfl⟩:=h
           exact⟨rfl,rfl⟩
         · rename_i he hq
           rw[he]
           simp only[a06,hq]
           obtain⟨hpa,rfl,rfl⟩:=h
           exact⟨hpa,rfl,rfl⟩
         · exact h.elim
     · rename_i hfl hsp hop
       unfold S08 at h ⊢
       rw[hfl]at h ⊢
       cases blk with
       | none=>simp[Y04,hop]at h
       | some b =>
         simp only[Y04,hop,hsp,fin,Option.map_some]at h ⊢
         split at h
         · rename_i he hi
           rw[he,hi]
           simp only[a06]
           split at h
           · rename_i hE
             split at h
             · rename_i hZ
               obtain⟨h1,rfl,rfl⟩:=h
               exact⟨h1,rfl,rfl⟩
             · exact h.elim
           · exact h.elim
         · rename_i he hi
           rw[he,hi]
           simp only[a06]
           split at h
           · rename_i hE
             split at h
             · rename_i hZ
               obtain⟨h1,rfl,rfl⟩:=h
               exact⟨h1,rfl,rfl⟩
             · exact h.elim
           · exact h.elim
         · rename_i he hi
           rw[he,hi]
           simp only[a06]
           split at h
           · rename_i hE
             split at h
             · rename_i hZ
               obtain⟨h1,rfl,rfl⟩:=h
               exact⟨h1,rfl,rfl⟩
             · exact h.elim
           · exact h.elim
         · exact h.elim
     · rename_i hfl hsp hop
       unfold S08 at h ⊢
       rw[hfl]at h ⊢
       cases blk with
       | none=>simp[o07,hop]at h
       | some b =>
         simp only[o07,hop,hsp,fin,Option.map_some]at h ⊢
         split at h
         · rename_i he
           rw[he]
           simp only[a06]
           split at h
           · rename_i hA hZ
             obtain⟨x,h1,h2,h⟩:=h
             refine⟨x,h1,h2,?_⟩
             split at h
             · rename_i hv
               split at h
               · rename_i hq
                 obtain⟨rfl,rfl⟩:=h
                 exact⟨rfl,rfl⟩
               · exact h.elim
             · exact h.elim
           · rename_i hA
             obtain⟨x,h1,rfl,rfl⟩:=h
             exact⟨x,h1,rfl,rfl⟩
           · exact h.elim
         · exact h.elim
     · rename_i hfl hsp hop
       unfold S08 at h ⊢
       rw[hfl]at h ⊢
       simp only[D06,hop,hsp,fin]at h ⊢
       cases blk with
       | none=>exact h.elim
       | some b=>obtain⟨rfl,rfl⟩:=h; exact⟨rfl,rfl⟩
     · rename_i hfl hsp hop
       unfold S08 at h ⊢
       rw[hfl]at h ⊢
       simp only[D06,hop,hsp,fin]at h ⊢
       cases blk with
       | none=>exact h.elim
       | some b=>obtain⟨rfl,rfl⟩:=h; exact⟨rfl,rfl⟩
     · simp at hb
theorem t0w (hap:ox.apart ops oy=true) (hb:C0h oy ay=true) (hx:clsA ax=5) (hrt:ay.rt≠ax.rt)
 (h:Z04 P Shp ops ay oy σ V fun σ1 V1=>Z04 P Shp ops ax ox σ1 V1 K):Z04 P Shp ops ax ox σ V fun σ1 V1=>Z04 P Shp ops ay oy σ1 V1 K:=by
 have hy:clsA ay=0:=by
  unfold C0h at hb; unfold clsA
  split at hb
  · rename_i h _ _; rw[h]; rfl
  · rename_i h _ _; rw[h]; rfl
  · rename_i h _ _; rw[h]; rfl
  · rename_i h _ _; rw[h]; rfl
  · rename_i h _ _; rw[h]; rfl
  · simp at hb
 obtain⟨hdx,hdd,hdy⟩:=Oper.apart_spec hap
 obtain⟨sy,oby,hEy,h⟩:=j0m hy h
 have hev:∀x∈ox.op.operands,((σ.setOwn ay.rt oby).put oy.dst sy).ev x=σ.ev x:=fun x hx=>by rw[L0a (M02 hdy x hx),A08]
 have hg:L02 ops ox ((σ.setOwn ay.rt oby).put oy.dst sy)=L02 ops ox σ:=by rw[W03 hdy,T04]
 rcases A09 h with⟨g,h⟩|⟨g,h⟩
 · rw[hg]at g
   refine p0b g ?_
   rw[G0v hx]at h ⊢
   unfold appT at h ⊢
   split at h
   · rename_i x y e sz bs hq
     obtain⟨m1,m2⟩:=q0b hq
     rw[hev x m1,hev y m2,s0a,G09 hrt]at h
     revert h
     split
     · split
       · rintro⟨xs,vs,a1,a2,a3,a4,a5,a6,h⟩
         refine⟨xs,vs,a1,a2,a3,a4,a5,a6,fun cap' l' hok => ?_⟩
         have hk:=h cap' l' hok
         refine u0c hy (s:=a06 ax.rt sy) (ob:=N0e ax.rt oby) ?_ ?_
         · rw[W03 hdx,T04,u0g,s0a,G09 (fun e=>hrt e.symm),C0p]
           refine b0a (fun x hx => ?_) (y0s hb hEy)
           rw[L0a (M02 hdx x hx),A08,l0o]
         · have e1:∀(X:SV) (L:Option OB),((((σ.kill ax.rt).setOwn ax.rt L).put ox.dst X).setOwn ay.rt (N0e ax.rt oby)).put oy.dst (a06 ax.rt sy) =
               ((((σ.setOwn ay.rt oby).put oy.dst sy).kill ax.rt).setOwn ax.rt L).put ox.dst X:=by
             intro X L
             rw[D0p,E0h,J05 (σ:=(σ.kill ax.rt).setOwn ax.rt L),J05 (σ:=(σ.kill ax.rt).setOwn ay.rt (N0e ax.rt oby)),d04 hdd,o0b hrt]
           rw[e1]; exact hk
       · exact fun h=>h.elim
     · split
       · rintro⟨xs,vs,a1,a2,a3,a4,a5,a6,h⟩
         refine⟨xs,vs,a1,a2,a3,a4,a5,a6,fun cap' l' hok => ?_⟩
         have hk:=h cap' l' hok
         refine u0c hy (s:=a06 ax.rt sy) (ob:=N0e ax.rt oby) ?_ ?_
         · rw[W03 hdx,T04,u0g,s0a,G09 (fun e=>hrt e.symm),C0p]
           refine b0a (fun x hx => ?_) (y0s hb hEy)
           rw[L0a (M02 hdx x hx),A08,l0o]
         · have e1:∀(X:SV) (L:Option OB),((((σ.kill ax.rt).setOwn ax.rt L).put ox.dst X).setOwn ay.rt (N0e ax.rt oby)).put oy.dst (a06 ax.rt sy) =
               ((((σ.setOwn ay.rt oby).put oy.dst sy).kill ax.rt).setOwn ax.rt L).put ox.dst X:=by
             intro X L
             rw[D0p,E0h,J05 (σ:=(σ.kill ax.rt).setOwn ax.rt L),J05 (σ:=(σ.kill ax.rt).setOwn ay.rt (N0e ax.rt oby)),d04 hdd,o0b hrt]
           rw[e1]; exact hk
       · exact fun h=>h.elim
     · exact fun h=>h.elim
   · exact h.elim
 · rw[hg]at g
   refine t07 g (u0c hy (s:=sy) (ob:=oby) ?_ ?_)
   · rw[W03 hdx,s0a]
     exact b0a (fun x hx=>by rw[L0a (M02 hdx x hx)]) hEy
   · rw[J05,d04 hdd]; exact h
theorem J0q {an:An} (hcl:clsA an=6):(∀o σ V K,actT P Shp an o σ V K=P0d P Shp an.sp an.rt o σ V K)∨(∀o σ V K,actT P Shp an o σ V K=N0i P an.rt o σ V K)∨(∀o σ V K,actT P Shp an o σ V K=M0e P an.rt o σ V K):=by
 have h:an.fl=24∨an.fl=25∨an.fl=26:=by
  simp[clsA]at hcl; split at hcl<;>simp_all
 rcases h with h|h|h
 · exact .inl fun o σ V K=>by unfold actT; rw[h]; rfl
 · exact .inr (.inl fun o σ V K=>by unfold actT; rw[h]; rfl)
 · exact .inr (.inr fun o σ V K=>by unfold actT; rw[h]; rfl)
theorem m0o {sp:Bool} {rt:Nat} {o:Oper} {σ σ':St} {K K':St→View→Prop} (hev:∀x∈o.op.operands,σ.ev x=σ'.ev x) (hown:σ.own[rt]?=σ'.own[rt]?)
 (hk:∀L s V',V.le V'→V'.Fin→K ((σ.setOwn rt L).put o.dst s) V'→K' ((σ'.setOwn rt L).put o.dst s) V') (h:P0d P Shp sp rt o σ V K):P0d P Shp sp rt o σ' V K':=by
 revert h; unfold P0d
 rw[p0e hev,hown]
 split
 · intro h; exact h.mono fun v m' V' hle hfin r=>M0a (fun s=>a0a fun s=>hk _ s V' hle hfin) r
 · exact id
theorem K0q {rt:Nat} {o:Oper} {σ σ':St} {K K':St→View→Prop} (hev:∀x∈o.op.operands,σ.ev x=σ'.ev x) (hown:σ.own[rt]?=σ'.own[rt]?)
 (hk:∀L s,K ((σ.setOwn rt L).put o.dst s) V→K' ((σ'.setOwn rt L).put o.dst s) V) (h:N0i P rt o σ V K):N0i P rt o σ' V K':=by
 revert h; unfold N0i
 rw[hown]
 split
 · rename_i x y e sz bs ty m hq hm
   obtain⟨h1,h2⟩:=q0b hq
   rw[hev x h1,hev y h2]
   split
   · rintro⟨xs,vs,a1,a2,a3,a4,a5,a6,a7,a8,h3,h4⟩
     exact⟨xs,vs,a1,a2,a3,a4,a5,a6,a7,a8,h3,fun ra rc m' g=>hk _ _ (h4 ra rc m' g)⟩
   · exact id
 · exact id
theorem F0h {rt:Nat} {o:Oper} {σ σ':St} {K K':St→View→Prop} (hev:∀x∈o.op.operands,σ.ev x=σ'.ev x) (hown:σ.own[rt]?=σ'.own[rt]?)
 (hk:∀L s,K ((σ.setOwn rt L).put o.dst s) V→K' ((σ'.setOwn rt L).put o.dst s) V) (h:M0e P rt o σ V K):M0e P rt o σ' V K':=by
 revert h; unfold M0e
 rw[hown]
 split
 · rename_i t n c hop
   rw[hev n (by simp[hop,Op.operands]),hev c (by simp[hop,Op.operands])]
   split
   · split
     · split
       · rintro⟨h1,h⟩
         refine⟨h1,?_⟩
         revert h
         split
         · intro h b b1 b2; exact hk _ _ (h b b1 b2)
         · exact id
       · exact id
     · exact id
   · exact id
 · exact id
theorem u0w (hap:ox.apart ops oy=true) (hy:clsA ay=0) (hx:clsA ax=6) (hrt:ay.rt≠ax.rt)
 (h:Z04 P Shp ops ay oy σ V fun σ1 V1=>Z04 P Shp ops ax ox σ1 V1 K):Z04 P Shp ops ax ox σ V fun σ1 V1=>Z04 P Shp ops ay oy σ1 V1 K:=by
 obtain⟨hdx,hdd,hdy⟩:=Oper.apart_spec hap
 obtain⟨sy,oby,hEy,h⟩:=j0m hy h
 have hfin:∀L s V',V.le V'→K ((((σ.setOwn ay.rt oby).put oy.dst sy).setOwn ax.rt L).put ox.dst s) V'→Z04 P Shp ops ay oy ((σ.setOwn ax.rt L).put ox.dst s) V' K:=by
  intro L s V' hle hk
  refine u0c hy (s:=sy) (ob:=oby) ?_ ?_
  · rw[W03 hdx,T04,s0a,G09 (fun e=>hrt e.symm)]
    exact w0s hle (b0a (fun x hx=>by rw[L0a (M02 hdx x hx),A08]) hEy)
  · have e1:(((σ.setOwn ax.rt L).put ox.dst s).setOwn ay.rt oby).put oy.dst sy=(((σ.setOwn ay.rt oby).put oy.dst sy).setOwn ax.rt L).put ox.dst s:=by
      rw[J05 (σ:=σ.setOwn ax.rt L),J05 (σ:=σ.setOwn ay.rt oby),d04 hdd,o0b hrt]
    rw[e1]; exact hk
 have hev:∀x∈ox.op.operands,((σ.setOwn ay.rt oby).put oy.dst sy).ev x=σ.ev x:=fun x hx=>by rw[L0a (M02 hdy x hx),A08]
 have hown:((σ.setOwn ay.rt oby).put oy.dst sy).own[ax.rt]?=σ.own[ax.rt]?:=by rw[s0a,G09 hrt]
 have hg:L02 ops ox ((σ.setOwn ay.rt oby).put oy.dst sy)=L02 ops ox σ:=by rw[W03 hdy,T04]
 rcases A09 h with⟨g,h⟩|⟨g,h⟩
 · rw[hg]at g
   refine p0b g ?_
   rcases J0q (P:=P) (Shp:=Shp) hx with hx|hx|hx
   · rw[hx]at h ⊢; exact m0o hev hown (fun L s V' hle _=>hfin L s V' hle) h
   · rw[hx]at h ⊢; exact K0q hev hown (fun L s=>hfin L s V (View.le_refl V)) h
   · rw[hx]at h ⊢; exact F0h hev hown (fun L s=>hfin L s V (View.le_refl V)) h
 · rw[hg]at g
   refine t07 g (u0c hy (s:=sy) (ob:=oby) ?_ ?_)
   · rw[W03 hdx,s0a]
     exact b0a (fun x hx=>by rw[L0a (M02 hdx x hx)]) hEy
   · rw[J05,d04 hdd]; exact h
theorem z0s (hap:ox.apart ops oy=true) (hy:clsA ay=0) (hx:clsA ax=1∨clsA ax=2∨clsA ax=4)
 (h:Z04 P Shp ops ay oy σ V fun σ1 V1=>Z04 P Shp ops ax ox σ1 V1 K):Z04 P Shp ops ax ox σ V fun σ1 V1=>Z04 P Shp ops ay oy σ1 V1 K:=by
 obtain⟨hdx,hdd,hdy⟩:=Oper.apart_spec hap
 obtain⟨sy,oby,hEy,h⟩:=j0m hy h
 have hfin:∀s V',V.le V'→K (((σ.setOwn ay.rt oby).put oy.dst sy).put ox.dst s) V'→Z04 P Shp ops ay oy (σ.put ox.dst s) V' K:=by
  intro s V' hle hk
  refine u0c hy (s:=sy) (ob:=oby) ?_ ?_
  · rw[W03 hdx,s0a]
    exact w0s hle (b0a (fun x hx=>by rw[L0a (M02 hdx x hx)]) hEy)
  · rw[J05,d04 hdd]; exact hk
 have hev:∀x∈ox.op.operands,((σ.setOwn ay.rt oby).put oy.dst sy).ev x=σ.ev x:=fun x hx=>by rw[L0a (M02 hdy x hx),A08]
 have hg:L02 ops ox ((σ.setOwn ay.rt oby).put oy.dst sy)=L02 ops ox σ:=by rw[W03 hdy,T04]
 rcases A09 h with⟨g,h⟩|⟨g,h⟩
 · rw[hg]at g
   refine p0b g ?_
   rcases hx with hx|hx|hx
   · rw[Q0e hx]at h ⊢; exact D0h hev (fun s V' hle _=>hfin s V' hle) h
   · rw[l0h hx]at h ⊢; exact I0j hev (fun s V' hle _=>hfin s V' hle) h
   · exact k0o hx hev (fun s V' hle _=>hfin s V' hle) h
 · rw[hg]at g
   exact t07 g (hfin _ V (View.le_refl V) h)
theorem G0h {an:An} {o:Oper} (hcl:clsA an=1) {σ':St} (hg:L02 ops o σ'=L02 ops o σ) (hev:∀x∈o.op.operands,σ'.ev x=σ.ev x) (h:Z04 P Shp ops an o σ' V K) :
 (L02 ops o σ=some true∧∃cells n,I0e P o σ.ev=some (cells,n)∧∀(b:Nat) (V':View),V.le V'→V'.Fin→V' b=some cells→K (σ'.put o.dst (.val (.slice (some ⟨b,0,none⟩) n n))) V') ∨
 (L02 ops o σ=some false∧K (σ'.put o.dst (.val undef)) V):=by
 rcases A09 h with⟨g,h⟩|⟨g,h⟩
 · rw[hg]at g
   rw[Q0e hcl]at h
   unfold O0d at h
   rw[z08 hev]at h
   split at h
   · rename_i cells n hC; exact .inl ⟨g,cells,n,hC,h⟩
   · exact h.elim
 · rw[hg]at g
   exact .inr ⟨g,h⟩
theorem H09 {an:An} {o:Oper} (hcl:clsA an=1) (hg:L02 ops o σ=some true) {cells:Array Value} {n:Nat} (hC:I0e P o σ.ev=some (cells,n))
 (h:∀(b:Nat) (V':View),V.le V'→V'.Fin→V' b=some cells→K (σ.put o.dst (.val (.slice (some ⟨b,0,none⟩) n n))) V'):Z04 P Shp ops an o σ V K:=by
 refine p0b hg ?_
 rw[Q0e hcl]
 unfold O0d
 rw[hC]
 exact h
theorem View.Fin.more {V:View} (h:V.Fin) (cells:Array Value):∃b V',View.le V V'∧V'.Fin∧V' b=some cells:=by
 obtain⟨n,hn⟩:=h
 refine⟨n,fun i=>if i=n then some cells else V i,U09 (hn n (Nat.le_refl n)),⟨n+1,fun b hb => ?_⟩,by simp⟩
 have:b≠n:=by omega
 simp[this,hn b (by omega)]
theorem k0v (hV:V.Fin) (hap:ox.apart ops oy=true) (hy:clsA ay=1∨clsA ay=2) (hx:clsA ax=1)
 (h:Z04 P Shp ops ay oy σ V fun σ1 V1=>Z04 P Shp ops ax ox σ1 V1 K):Z04 P Shp ops ax ox σ V fun σ1 V1=>Z04 P Shp ops ay oy σ1 V1 K:=by
 obtain⟨hdx,hdd,hdy⟩:=Oper.apart_spec hap
 have evx:∀s,∀x∈ox.op.operands,(σ.put oy.dst s).ev x=σ.ev x:=fun s x hx=>L0a (M02 hdy x hx)
 have evy:∀s,∀x∈oy.op.operands,(σ.put ox.dst s).ev x=σ.ev x:=fun s x hx=>L0a (M02 hdx x hx)
 have gx:∀s,L02 ops ox (σ.put oy.dst s)=L02 ops ox σ:=fun s=>W03 hdy
 have gy:∀s,L02 ops oy (σ.put ox.dst s)=L02 ops oy σ:=fun s=>W03 hdx
 rcases A09 h with⟨g,h⟩|⟨g,h⟩
 · rcases hy with hy|hy
   · rw[Q0e hy]at h
     unfold O0d at h
     split at h
     · rename_i cy ny hCy
       obtain⟨b0,V0,hle0,hfin0,hb0⟩:=hV.more cy
       rcases G0h hx (gx _) (evx _) (h b0 V0 hle0 hfin0 hb0)with⟨gX,cx,nx,hCx,_⟩|⟨gX,_⟩
       · refine H09 hx gX hCx fun b V' hle hfin hb => ?_
         refine H09 hy (by rw[gy]; exact g) (by rw[z08 (evy _)]; exact hCy) fun b2 V2 hle2 hfin2 hb2 => ?_
         rcases G0h hx (gx _) (evx _) (h b2 V2 (View.le_trans hle hle2) hfin2 hb2)with⟨_,cx',nx',hCx',hk⟩|⟨gX',_⟩
         · rw[hCx]at hCx'; cases hCx'
           have:=hk b V2 (View.le_refl _) hfin2 (hle2 _ _ hb)
           rw[d04 hdd]; exact this
         · rw[gX]at gX'; cases gX'
       · refine t07 gX ?_
         refine H09 hy (by rw[gy]; exact g) (by rw[z08 (evy _)]; exact hCy) fun b2 V2 hle2 hfin2 hb2 => ?_
         rcases G0h hx (gx _) (evx _) (h b2 V2 hle2 hfin2 hb2)with⟨gX',_⟩|⟨_,hk⟩
         · rw[gX]at gX'; cases gX'
         · rw[d04 hdd]; exact hk
     · exact h.elim
   · rw[l0h hy]at h
     unfold M0i at h
     split at h
     · rename_i f vs hq
       have hq':∀s,t0k P oy (σ.put ox.dst s).ev=some (f,vs):=fun s=>by rw[p0e (evy s)]; exact hq
       obtain⟨v0,V0,hle0,hfin0,hr0⟩:=h.inst hV
       obtain⟨s0,hk0,_⟩:=j0v (O0e hr0)
       have hcall:∀s V',V.le V'→V'.Fin→(∀s' V1 V2,V.le V1→V1.le V2→V'.le V2→V2.Fin→Z04 P Shp ops ax ox (σ.put oy.dst s') V1 K→K ((σ.put ox.dst s).put oy.dst s') V2) →
        Z04 P Shp ops ay oy (σ.put ox.dst s) V' K:=by
        intro s V' hle hfin hK
        refine p0b (by rw[gy]; exact g) ?_
        rw[l0h hy]
        unfold M0i
        rw[hq' s]
        refine(x0p hle h).mono' fun v V2 hle2 hfin2 ⟨V1,hl12,hl1,hr⟩ => ?_
        exact M0a (fun s hs=>a0a (fun s' hs'=>hK s' V1 V2 hl1 hl12 hle2 hfin2 hs') hs) hr
       rcases G0h hx (gx _) (evx _) hk0 with⟨gX,cx,nx,hCx,_⟩|⟨gX,_⟩
       · refine H09 hx gX hCx fun b V' hle hfin hb=>hcall _ V' hle hfin fun s' V1 V2 hl1 hl12 hl2 hfin2 hs => ?_
         rcases G0h hx (gx _) (evx _) hs with⟨_,cx',nx',hCx',hk⟩|⟨gX',_⟩
         · rw[hCx]at hCx'; cases hCx'
           have:=hk b V2 hl12 hfin2 (hl2 _ _ hb)
           rw[d04 hdd]; exact this
         · rw[gX]at gX'; cases gX'
       · refine t07 gX (p0b (by rw[gy]; exact g) ?_)
         rw[l0h hy]
         unfold M0i
         rw[hq' (.val undef)]
         refine h.mono' fun v V1 hl1 hf1 hr=>M0a (fun s hs=>a0a (fun s' hs' => ?_) hs) hr
         rcases G0h hx (gx _) (evx _) hs' with⟨gX',_⟩|⟨_,hk⟩
         · rw[gX]at gX'; cases gX'
         · rw[d04 hdd]; exact hk
     · exact h.elim
 · rcases G0h hx (gx _) (evx _) h with⟨gX,cx,nx,hCx,hk⟩|⟨gX,hk⟩
   · refine H09 hx gX hCx fun b V' hle hfin hb=>t07 (by rw[gy]; exact g) ?_
     rw[d04 hdd]; exact hk b V' hle hfin hb
   · refine t07 gX (t07 (by rw[gy]; exact g) ?_)
     rw[d04 hdd]; exact hk
end swap
